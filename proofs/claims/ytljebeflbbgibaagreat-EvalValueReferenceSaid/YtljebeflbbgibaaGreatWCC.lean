/- Parts: AbOps3, AbOps4, AbOps5, AbOps6, AbOp, AbRun, AbDraw1. -/
import Derived.Laws.Tables
import Derived.Lib.Strings
import Derived.Test.YtljebeflbbgibaaGreatWCB
set_option linter.unusedSimpArgs false
set_option linter.unusedVariables false
set_option linter.unusedSectionVars false
set_option linter.defProp false
set_option maxHeartbeats 32000000
namespace Go.Ab
set_option maxRecDepth 20000
open Go
theorem tA{P:Prop}(h:P:=by rw[<- Nat.add_mul];congr 1;omega):P:=h
theorem l5{P:Prop}(h:P:=by simpa using F):P:=h
theorem qS{P:Prop}(h:P:=by simp[Builtin.lenOf]):P:=h
theorem nl{P:Prop}(h:P:=by rw[List.length_take];omega):P:=h
theorem o8{P:Prop}(h:P:=by simp[Builtin.len_,QV hd,goInt]):P:=h
theorem kY{P:Prop}(h:P:=by simpa using A):P:=h
theorem cW{P:Prop}(h:P:=by simp[Op.operands]):P:=h
theorem tB{P:Prop}(h:P:=by simp only[Op.operands,List.mem_toArray,List.mem_map];exact⟨p,hp,rfl⟩):P:=h
theorem tC{P:Prop}(h:P:=by apply Array.ext';simp):P:=h
def nn:=@Nat.sub_self
def fW:=@Option.map_some
def ki:=@congrArg
def ca:=@Nat.zero_le
def iD:=@Nat.add_mul
def wH:=@Array.toList_setIfInBounds
def qT:=@List.take_add_one
def tD:=@Decidable.byContradiction
def np:=@Nat.add_zero
def nq:=@Array.toArray_toList
def kZ:=@Nat.succ_mul
def tE:=@Array.toList_map
def dY:=@List.getElem?_map
def b8:=@List.append_nil
def nr:=@Nat.mul_le_mul_right
def tF:=@List.map_take
def o9:=@Go.IntWalk.i64_in
def ju:=@List.flatten_cons
def pc:=@Nat.zero_mul
def tG:=@Go.run_firstCells_some
def jv:=@List.mem_of_getElem?
def eN:=@List.drop_zero
def qU:=@Nat.sub_zero
def tH:=@List.take_length
def dn:=@Bool.and_eq_true
def pd:=@Nat.le_of_ble_eq_true
def b9:=@Bool.false_eq_true
def qV:=@List.drop_append_of_le_length
def i4:=@decide_eq_true_eq
def bh:=@Option.getD_some
def tI:=@List.getElem?_set
def pe:=@Array.getElem?_toList
def dz:=@List.cons.injEq
def jw:=@Nat.mul_one
def la:=@Go.Code.wp_mono
def dS:=@List.map_cons
end Go.Ab
namespace Go.Ab
set_option maxRecDepth 20000
open Go Go.RowKit
def l6(G:Gh):Option AV->Option Value->Prop
 |none,none=>True
 |some c,some v=>VR G c v
 |_,_=>False
section
variable {P:Program} {B:Bs} {G:Gh} {H H':Hp} {w:World}
theorem qW{c:AV}{v:Value}{k y:Nat}(code:BoundsCode)(h:VR G c v)(z:Rl 0 (some c)=some k)(j:k<=y):(Instr.sliceBound v y code).run P w=.ok k w:=by
 unfold Rl at z;split at z
 .simp at *
 .rename_i I n e;simp only[au]at z e;subst z;subst e;cases h;simp[Instr.sliceBound,asIntOf,j]
 .simp at z
theorem CE{d k:Nat}{c:AV}(h:Rl d (some c)=some k):Rl 0 (some c)=some k:=by
 unfold Rl at *;split at h<;>simp_all
theorem tJ{lo F:Option AV}{V Y:Option Value}{l h len cap:Nat}(I:l6 G lo V)(g:l6 G F Y)(Z:Rl 0 lo=some l)(U:Rl len F=some h)(M:l<=h)(L:h<=len)(o:len<=cap)(O:Bool):
 (Instr.sliceBounds O len cap V Y none).run P w=.ok (l,h,cap) w:=by
 cases F with
 |none=>
  cases Y with
  |some v=>exact g.elim
  |none=>
   simp only[Rl,au]at U;subst U;cases lo with
   |none=>
    cases V with
    |some v=>exact I.elim
    |none=>
     simp only[Rl,au]at Z;subst Z;simp[Instr.sliceBounds]
   |some c=>
    cases V with
    |none=>exact I.elim
    |some v=>simp[Instr.sliceBounds,qW _ I Z M]
 |some j=>
  cases Y with
  |none=>exact g.elim
  |some m=>
   have i:=CE U;cases lo with
   |none=>
    cases V with
    |some v=>exact I.elim
    |none=>
     simp only[Rl,au]at Z;subst Z;simp[Instr.sliceBounds,qW _ g i (show h<=cap by omega)]
   |some c=>
    cases V with
    |none=>exact I.elim
    |some v=>simp[Instr.sliceBounds,qW _ I Z M,qW _ g i (show h<=cap by omega)]
theorem CF{t:TypeId}{x c:AV}{xv:Value}{lo Z:Option AV}{I C:Option Value}(hx:VR G x xv)(hl:l6 G lo I)(hh:l6 G Z C)(h:RD P t x lo Z=some c):
 ∃v,(Instr.sliceAt t xv I C none).run P w=.ok v w/\VR G c v:=by
 unfold RD at h;split at h
 .rename_i s hd;split at h
  .rename_i l hh' U g;split at h
   .rename_i hc;simp only[au]at h;subst h;cases hx with
    |str J _ hs=>
     subst hs;have hb:=tJ (P:=P) (w:=w) (cap:=J.size) hl hh U g hc.1 hc.2 (by show J.data.toList.length<=J.data.size;simp) false;have hsz:J.data.toList.length=J.size:=by show J.data.toList.length=J.data.size;simp
     rw[hsz]at hb;refine⟨.string (J.extract l hh'),?_,.str _ _ (Lib.extract_data _ _ _)⟩;simp only[Instr.sliceAt,cR,QV hd,cV,Instr.slice];simp[hb]
   .simp at h
  .simp at h
 .rename_i e y hd;split at h
  .rename_i z hz;have O:∀(a:Option Addr) (Y cap l V:Nat),xv=.slice a Y cap->Rl 0 lo=some l->Rl Y Z=some V->l<=V->V<=Y->Y<=cap ->
    (Instr.sliceAt t xv I C none).run P w=.ok (.slice (if cap=l then a else a.map (·.add (l*z))) (V-l) (cap-l)) w:=fun a Y cap l V e1 U g m K h3=>by
    subst e1;simp only[Instr.sliceAt,cR,QV hd,cV,Instr.slice];simp[tJ hl hh U g m K h3,Sd hz]
   split at h
   .rename_i r off Y z';split at h
    .rename_i l V U g;split at h
     .rename_i hc;obtain⟨m,K,rfl⟩:=hc;cases hx with
      |sl hr hlc hx'=>
       rename_i b o x cap;have:=O _ Y cap l V rfl U g m K hlc;split at h
       .rename_i e1;simp only[au]at h;subst h;subst e1;rw[nn]at this;exact⟨_,this,.lst0 _ _⟩
       .rename_i hne;simp only[au]at h;subst h;rw[af aa]at this;refine⟨_,this,?_⟩;simp only[fW,jj];rw[fo];refine .sl hr aa ?_;have e3:(cap-l)*z'+l*z'=cap*z':=tA;omega
     .simp at h
    .simp at h
   .rename_i xs;split at h
    .rename_i l V U g;split at h
     .rename_i hc;obtain⟨m,K⟩:=hc;split at h
      .rename_i he;simp only[au]at h;subst h;have F:V-l=0:=by
        have:=ki List.length he;simp only[kU,hI,iX]at this;omega
       cases hx with
       |lst vs hzz hF hv L=>
        have:=O _ _ _ l V rfl U g m K L;rw[F]at this;exact⟨_,this,.lst0 _ _⟩
       |lst0 a cap=>
        have:=O _ _ _ l V rfl U g m K (ca cap);rw[F]at this;exact⟨_,this,.lst0 _ _⟩
      .rename_i row rows he;split at h
       .rename_i hrl;simp only[au]at h;subst h;have hpos:0<V-l:=by
         have:=ki List.length he;simp only[kU,hI,em]at this;omega
        cases hx with
        |lst0 a cap=>simp at K;omega
        |lst vs hzz hF hv L=>
         rename_i b o cap z';have A:=O _ _ _ l V rfl U g m K L;rw[af aa]at A;have M:∀i:Nat,(row::rows)[i]?=if i<V-l then xs[l+i]? else none:=fun i=>by
          rw[<-he,js,kV]
         have hz':z'=z:=by
          have:=M 0;rw[az hpos]at this;rw[<-hzz (l+0) row (by rw[<-this];rfl)];exact hrl
         subst hz';have F:(row::rows).length=V-l:=by
          rw[<-he];simp only[kU,hI];omega
         refine⟨_,A,?_⟩;simp only[fW,jj];rw[<-F];refine .lst (z:=z') (fun i j=>vs (l+i) j) (fun i rw' Z=>?_) (fun i j Z hj=>?_) (fun i j rw' d Z hj=>?_) (by rw[F];omega)
         .rw[M i]at Z;split at Z
          .exact hzz _ _ Z
          .simp at Z
         .have:=hF (l+i) j (by rw[F]at Z;omega) hj;rw[<-this]
          congr 1
          rw[iD];omega
         .rw[M i]at Z;split at Z
          .exact hv _ _ _ _ Z hj
          .simp at Z
       .simp at h
     .simp at h
    .simp at h
   .split at h
    .rename_i U g;simp only[au]at h;subst h;cases hx;have:=O none 0 0 0 0 rfl U g (aC _) (aC _) (aC _);exact⟨_,this,.nilS⟩
    .simp at h
   .simp at h
  .simp at h
 .simp at h
theorem bl.splice{cs M:List AV}{vs Z:List Value}(h:bl G cs vs)(m:bl G M Z)(off:Nat):bl G (Ab.splice cs off M) (vs.take off++Z++vs.drop (off+Z.length)):=by
 unfold Ab.splice;rw[m.1];exact((h.take off).append m).append (h.drop _)
theorem wI(off:Nat):∀(M:List Value) (k:Nat) (cells:Array Value),off+k+M.length<=cells.size ->
 ((M.zipIdx k).foldl (fun Z (c,j)=>Z.setIfInBounds (off+j) c) cells).toList=cells.toList.take (off+k)++M++cells.toList.drop (off+k+M.length)
 |[],k,cells,_=>by simp
 |v::M,k,cells,h=>by
  simp only[em]at h;rw[List.zipIdx_cons,List.foldl_cons,wI off M (k+1) _ cQ];simp only[wH,em];have hp:off+k<cells.toList.length:=cQ;have i:(cells.toList.set (off+k) v).take (off+(k+1))=cells.toList.take (off+k)++[v]:=by
   rw[<-fo,qT,List.take_set_of_le (aC _),List.getElem?_set_self hp];rfl
  rw[i,List.drop_set_of_lt aa,show off+(k+1)+M.length=off+k+(M.length+1) by omega];simp
theorem qX{J:Nat->Option (Nat×Nat)}:∀{ps:List (Nat×AV)}{pv:List (Nat×Value)}{cs out:List AV}{vs:List Value},ps.length=pv.length ->
 (∀(i:Nat) p q,ps[i]?=some p->pv[i]?=some q->p.1=q.1/\VR G p.2 q.2)->bl G cs vs->jm J cs ps=some out ->
 ∃Z,Instr.fill J vs.toArray pv=some Z.toArray/\bl G out Z
 |[],[],cs,out,vs,_,_,hv,h=>by
  simp only[jm,au]at h;subst h;exact⟨vs,rfl,hv⟩
 |[],q::pv,_,_,_,hl,_,_,_=>by simp at hl
 |p::ps,[],_,_,_,hl,_,_,_=>by simp at hl
 |(i,c)::ps,(i',v)::pv,cs,out,vs,hl,hp,hv,h=>by
  obtain⟨rfl,V⟩:=hp 0 (i,c) (i',v) rfl rfl;simp only[]at V;simp only[jm]at h;split at h
  .simp at h
  .rename_i Y z U;split at h
   .simp at h
   .rename_i K;have M:=V.cells;have F:v.cells.size=c.cells.length:=by rw[M.1];simp
    have C:v.cells.size=z/\Y+v.cells.size<=vs.length:=by
     rw[F,<-hv.1];constructor
     .apply tD;intro m;exact K (.inl m)
     .apply tD;intro m;exact K (.inr aa)
    obtain⟨Z,L,A⟩:=qX (ps:=ps) (pv:=pv) (cs:=Ab.splice cs Y c.cells) (out:=out) (vs:=vs.take Y++v.cells.toList++vs.drop (Y+v.cells.toList.length))
     (by simpa using hl) (fun j p q O I=>hp (j+1) p q oU (by simpa using I)) (hv.splice M Y) h
    refine⟨Z,?_,A⟩;simp only[Instr.fill,U];rw[af cQ];rw[<-L]
    congr 1
    apply iA;have g:=wI Y v.cells.toList 0 vs.toArray cQ;simp only[np]at g;rw[List.toList_toArray,<-g];rw[<-Array.foldl_toList,Array.toList_zipIdx]
theorem qY{E:ai}{a:Act}:∀{ps:List (Nat×Operand)}{out:List (Nat×AV)},(∀p∈ps,∀c,PS E p.2=some c->VR G c (a.eval p.2))->R1 E ps=some out ->
 out.length=(ps.map fun x=>(x.1,a.eval x.2)).length/\∀(i:Nat) p q,out[i]?=some p->(ps.map fun x=>(x.1,a.eval x.2))[i]?=some q->p.1=q.1/\VR G p.2 q.2
 |[],out,_,h=>by
  simp only[R1,au]at h;subst h;exact⟨rfl,aA⟩
 |(i,x)::ps,out,hE,h=>by
  simp only[R1]at h;split at h
  .rename_i v vs J Z;simp only[au]at h;subst h;obtain⟨Y,g⟩:=qY (ps:=ps) (out:=vs) (fun p hp=>hE p (by simp[hp])) Z;refine⟨by simpa using Y,fun j p q O I=>?_⟩;cases j with
   |zero=>
    simp at O I;subst O I;exact⟨rfl,hE (i,x) aA v J⟩
   |succ j=>exact g j p q oU (by simpa using I)
  .simp at h
theorem CG{t:TypeId}{ps:List (Nat×AV)}{pv:List (Nat×Value)}{c:AV}(o:ps.length=pv.length)(m:∀(i:Nat) p q,ps[i]?=some p->pv[i]?=some q->p.1=q.1/\VR G p.2 q.2)(h:jn P t ps=some c):
 ∃v,(Instr.build t pv.toArray).run P w=.ok v w/\VR G c v:=by
 unfold jn at h;split at h
 .rename_i z I C hd;split at h
  .rename_i A Z;split at h
   .rename_i O L;simp only[au]at h;subst h;obtain⟨it,zv,zc,J,U,K,rfl⟩:=tv C;have V:=(ni (G:=G) K).cells;obtain⟨j,Y,g⟩:=qX o m V L;refine⟨.agg j.toArray,run_build w t _ _ ?_,.agg g.1 g.2⟩;simp only[Program.built,J,hd,U];unfold wl at Z;rw[Z];simp only[nq]at Y;simpa using Y
   .simp at h
  .simp at h
 .rename_i z n e C hd;split at h
  .rename_i s hs;split at h
   .rename_i O L;simp only[au]at h;subst h;obtain⟨it,zv,zc,J,U,K,rfl⟩:=tv C;have V:=(ni (G:=G) K).cells;obtain⟨ie,F,M⟩:=wy hs;obtain⟨j,Y,g⟩:=qX o m V L;refine⟨.agg j.toArray,run_build w t _ _ ?_,.agg g.1 g.2⟩;simp only[Program.built,J,hd,U,F,M];simp only[nq]at Y;simpa using Y
   .simp at h
  .simp at h
 .simp at h
theorem rep_get(z:List AV):∀(n j:Nat),j<n*z.length->(gF z n)[j]?=z[j%z.length]?
 |0,j,h=>by simp at h
 |n+1,j,h=>by
  simp only[gF];by_cases O:j<z.length
  .rw[iy O,Nat.mod_eq_of_lt O]
  .have Z:j<n*z.length+z.length:=by simpa [kZ]using h
   rw[j8 aa,rep_get z n (j-z.length) aa]
   congr 1
   exact(Nat.mod_eq_sub_mod aa).symm
theorem qZ(z:List AV):∀n,(gF z n).length=n*z.length
 |0=>by simp[gF]
 |n+1=>by simp[gF,qZ z n,iD];omega
theorem wJ{z:List AV}{m:Array Value}(C:bl G z m.toList)(n:Nat):bl G (gF z n) (((Array.range (n*z.length)).map (m[·% m.size]!))).toList:=by
 have Z:=C.1;refine⟨by simp[qZ],fun j c v hc J=>?_⟩;have O:j<n*z.length:=by
  have:=(cG.1 hc).1;rw[qZ]at this;exact this
 rw[rep_get z n j O]at hc;simp only[tE,Array.toList_range,dY,List.getElem?_range O,fW,au]at J;have I:0<z.length:=by
  rcases Nat.eq_zero_or_pos z.length with e|e
  .rw[e]at O;omega
  .exact e
 have V:j%z.length<z.length:=Nat.mod_lt _ I;have L:m.size=z.length:=by simpa using Z.symm
 refine C.2 (j%z.length) c v hc ?_;rw[L]at J;rw[<-J];simp[L,V]
theorem wK{J:Nat->Option (Nat×Nat)}:∀{L:List (Nat×AV)}{M A:List AV},jm J M L=some A->A.length=M.length
 |[],M,A,h=>by simp only[jm,au]at h;rw[h]
 |(i,c)::L,M,A,h=>by
  simp only[jm]at h;split at h
  .simp at h
  .split at h
   .simp at h
   .rename_i hc;rw[wK h,Ch];apply tD;intro m;exact hc (.inr aa)
theorem wL{t:TypeId}{len:Nat}{ps:List (Nat×AV)}{pv:List (Nat×Value)}{c:AV}(I:ps.length=pv.length)(C:∀(i:Nat) p q,ps[i]?=some p->pv[i]?=some q->p.1=q.1/\VR G p.2 q.2)
 (Z:Rs P H t len ps=some (c,H')):i3 P G w (Instr.buildSlice t len pv.toArray) id c H H':=by
 unfold Rs at Z;split at Z
 .rename_i e hd;split at Z
  .rename_i s z K A;split at Z
   .rename_i hc;obtain⟨h24,m⟩:=hc;split at Z
    .rename_i L g;simp only[bI]at Z;obtain⟨rfl,rfl⟩:=Z;obtain⟨zv,V,O⟩:=o6 A;have o:=wJ (O G) len;obtain⟨j,Y,J⟩:=qX I C o g;have F:j.length=len*s:=by
      rw[<-J.1,wK g,qZ,m]
     refine⟨.cells L 0 true,.cells (j++[]).toArray e,j.length+0,.slice (some ⟨w.heap.size,0,none⟩) len len,rfl,?_,.cells L j [] e J,fun G' hG=>.sl hG (aC _) aa⟩;rw[b8];show _=Result.ok (Value.slice (some ⟨w.heap.size,0,none⟩) len len) _
     .have U:¬(len*s > 2^24):=by omega
      rw[m]at Y;by_cases M:len*s=0
      .rw[M]at Y;simp at Y;simp[Instr.buildSlice,QV hd,Sd K,M,newRow];rw[show Array.map (fun _:Nat=>(default:Value)) (Array.range 0)=#[]from by simp,Y];rfl
      .simp only[nq]at Y;simp[Instr.buildSlice,QV hd,Sd K,U,M,V,Y,newRow]
    .simp at Z
   .simp at Z
  .simp at Z
 .simp at Z
theorem wM{t:TypeId}{l c r:AV}{L cv:Value}(hl:VR G l L)(hc:VR G c cv)(V:RK P H t l c=some (r,H')):
 i3 P G w (Instr.makeSlice t L cv) id r H H':=by
 unfold RK at V;split at V
 .rename_i e k1 l k2 c hd;cases hl;cases hc;split at V
  .rename_i s b z J hb hz;split at V
   .rename_i K;obtain⟨U,h2,h3,h4⟩:=K;simp only[bI]at V;obtain⟨rfl,rfl⟩:=V;obtain⟨m,O,M⟩:=o6 hz;obtain⟨i,A,Z⟩:∃i,P.info? e=some i/\i.bytes=b:=by simpa [QI,jt]using hb
    have V:Rd=70368744177664:=rfl;rw[V]at h2 h3;have o:=wJ (M G) l;have Y:((Array.range (c*s)).map (m.cells[·% m.cells.size]!)).toList=((Array.range (l*s)).map (m.cells[·% m.cells.size]!)).toList++(((Array.range (c*s)).map (m.cells[·% m.cells.size]!)).toList.drop (l*s)):=by
     have I:l*s<=c*s:=nr _ U
     conv=>lhs;rw[<-List.take_append_drop (l*s) ((Array.range (c*s)).map (m.cells[·% m.cells.size]!)).toList]
     congr 1
     simp only[tE,Array.toList_range,<-tF];rw[List.take_range,Nat.min_eq_left I]
    rw[h4]at o;have C:Made G (.cells (gF z l) 0 true) _ _:=.cells _ _ (((Array.range (c*s)).map (m.cells[·% m.cells.size]!)).toList.drop (l*s)) e o;rw[<-Y,nq]at C;refine⟨_,_,_,.slice (some ⟨w.heap.size,0,none⟩) l c,rfl,?_,C,fun G' hG=>.sl hG U ?_⟩
    .show _=Result.ok (Value.slice (some ⟨w.heap.size,0,none⟩) l c) _;have SN:IntKind.i64.wrap (l:Int)=l:=o9 _ aa;have j:IntKind.i64.wrap (c:Int)=c:=o9 _ aa;have F:¬((b:Int)*c > 2^48):=by
      have:(b:Int)*c=((c*b:Nat):Int):=by rw[Nat.mul_comm];simp
      rw[this];omega
     have h5:¬((281474976710656:Int)<(b:Int)*c):=l5;have h6:¬(c<l):=aa;have p1:¬((c:Int)<0):=aa;have p2:¬((l:Int)<0):=aa;simp only[Instr.makeSlice,cR,QV hd,cV,asInt,asIntOf];by_cases h0:c*s=0
     .simp[nj A,Z,SN,j,h5,h6,p1,p2,Sd J,h0,newRow];rw[show ∀f g:Nat->Value,Array.map f (Array.range 0)=Array.map g (Array.range 0)from fun f g=>aA]
     .simp[nj A,Z,SN,j,h5,h6,p1,p2,Sd J,h0,O,newRow]
    .have I:l*s<=c*s:=nr _ U;simp;omega
   .simp at V
  .simp at V
 .simp at V
end
section
variable {P:Program} {B:Bs} {G:Gh} {H H':Hp} {w:World}
theorem bl.oneCell{cs:List AV}{vs:List Value}(h:bl G cs vs)(U:cs.all AV.one=true):∀v∈vs,v.oneCell'=true:=fun v J=>by
 obtain⟨i,F,rfl⟩:=List.getElem_of_mem J;have j:i<cs.length:=by rw[h.1];exact F
 rw[(h.2 i _ _ (a1 j) (a1 F)).oneCell];exact iB.1 U _ (e9 j)
theorem CH{xs:List (List AV)}{s:Nat}(K:∀(i:Nat) (O:List AV),xs[i]?=some O->O.length=s):xs.flatten.length=xs.length*s /\
 ∀(i j:Nat) (c:AV),j<s->xs.flatten[i*s+j]?=some c->∃O,xs[i]?=some O/\O[j]?=some c:=by
 induction xs with
 |nil=>exact⟨aA,aA⟩
 |cons O xs ih=>
  have hr:=K 0 O rfl;obtain⟨Y,g⟩:=ih (fun i r F=>K (i+1) r l5);refine⟨by simp[Y,hr,kZ];omega,fun i j c Z hc=>?_⟩;rw[ju]at hc;cases i with
  |zero=>
   rw[pc,bZ,iy aa]at hc;exact⟨O,rfl,hc⟩
  |succ i=>
   rw[j8 (by rw[hr,kZ];omega)]at hc;rw[hr,show(i+1)*s+j-s=i*s+j by rw[kZ];omega]at hc;obtain⟨r,V,U⟩:=g i j c Z hc;exact⟨r,by simpa using V,U⟩
theorem CI{k n s:Nat}(h:k<n*s):k/s<n/\k%s<s/\k=k/s*s+k%s:=by
 have K:0<s:=by
  rcases Nat.eq_zero_or_pos s with e|e
  .subst e;omega
  .exact e
 refine⟨(Nat.div_lt_iff_lt_mul K).2 h,Nat.mod_lt _ K,?_⟩;have:=Nat.div_add_mod k s;rw[Nat.mul_comm]at this;omega
theorem CJ(h:R B H w G){t:TypeId}{x c:AV}{F:Value}{lo U:Option AV}{V Y:Option Value}(C:VR G x F)(I:l6 G lo V)(g:l6 G U Y)(K:jB P H t x lo U=some c):
 ∃v,(Instr.sliceAt t F V Y none).run P w=.ok v w/\VR G c v:=by
 unfold jB at K;split at K
 .rename_i r Z;split at K
  .rename_i n e cs j M hd A;split at K
   .rename_i z l L J m i;split at K
    .rename_i hc;obtain⟨h1,h2,h3⟩:=hc;cases C with
     |ptr hr=>
      rename_i b o x;have hf:=h.fits _ _ _ _ _ _ _ hr A;have hb:=tJ (P:=P) (w:=w) (cap:=n) I g m i h1 h2 (aC _) false;have O:(Instr.sliceAt t (.pointer (some ⟨b,o+Z,none⟩)) V Y none).run P w=.ok (.slice (some (if n=l then ⟨b,o+Z,none⟩else ⟨b,o+Z+l*z,none⟩)) (L-l) (n-l)) w:=by
       simp only[Instr.sliceAt,cR,QV hd,cV];simp[Instr.sureAddr,hb,Sd J,jj]
      split at K
      .rename_i e1;simp only[au]at K;subst K;subst e1;rw[nn]at O;exact⟨_,O,.lst0 _ _⟩
      .rename_i hne;simp only[au]at K;subst K;rw[af aa]at O;refine⟨_,O,?_⟩;rw[fo];refine .sl hr aa ?_;have e3:(n-l)*z+l*z=n*z:=tA;omega
    .simp at K
   .simp at K
  .simp at K
 .exact CF C I g K
theorem tK(h:R B H w G){s n:Nat}{x:AV}{xv:Value}{l:List AV}(hx:VR G x xv)(K:RE H s x=some (n,l)):
 ∃J,bl G l J/\J.length=n*s/\(∀Z,(Builtin.lenOf xv).run P Z=.ok n Z)/\(∀Z,(∀a,Z.cell? a=w.cell? a)->(Builtin.firstCells s n xv).run P Z=.ok J.toArray Z):=by
 unfold RE at K;split at K
 .rename_i r off Y z;cases hx with
  |sl hr hl hc=>
   rename_i b o x V;split at K
   .rename_i cs imm tip hg;simp only[]at K;split at K
    .rename_i A;simp only[bI]at K;obtain⟨rfl,rfl⟩:=K;obtain⟨vs,h1,h2⟩:=(((h.cells _ _ _ _ _ _ _ hr hg).drop off).take (Y*s)).list;have g:vs.length=Y*s:=by rw[<-h1.1];exact A
     refine⟨vs,h1,g,fun Z=>qS,fun Z I=>?_⟩;exact tG Z s Y _ Y V vs g (fun j v hj=>by rw[I,jj];exact h2 j v hj)
    .simp at K
   .simp at K
 .rename_i U;split at K
  .rename_i m;simp only[bI]at K;obtain⟨rfl,rfl⟩:=K;have C:∀(i:Nat) (O:List AV),U[i]?=some O->O.length=s:=fun i O hi=>by
    have:=iB.1 m O (jv hi);simpa using this
   obtain⟨hfl,hfg⟩:=CH C;cases hx with
   |lst0 a V=>
    refine⟨[],iZ G,aA,fun Z=>qS,fun Z I=>?_⟩;cases a with
    |none=>simp[Builtin.firstCells]
    |some a=>
     simp[Builtin.firstCells];rfl
   |lst vs hz hF F hcap=>
    rename_i b o V z;have hzs:U.length=0\/z=s:=by
     cases U with
     |nil=>exact .inl rfl
     |cons O U=>exact .inr (by rw[<-hz 0 O rfl,C 0 O rfl])
    have hh:en G w b o U.flatten:=fun k c hk=>by
     have L:k<U.length*s:=by rw[<-hfl];exact(cG.1 hk).1
     obtain⟨d1,d2,d3⟩:=CI L;have hz':z=s:=by
      rcases hzs with e|e
      .rw[e]at L;omega
      .exact e
     subst hz';obtain⟨O,g1,g2⟩:=hfg (k/z) (k%z) c d2 (by rw[<-d3];exact hk);refine⟨vs (k/z) (k%z),?_,F _ _ O c g1 g2⟩;have:=h.frz _ _ _ (hF (k/z) (k%z) d1 d2);rw[show o+k=o+k/z*z+k%z by omega];exact this
    obtain⟨J,h1,h2⟩:=hh.list;have g:J.length=U.length*s:=by rw[<-h1.1];exact hfl
    refine⟨J,h1,g,fun Z=>qS,fun Z I=>?_⟩;exact tG Z s U.length _ U.length V J g (fun j v hj=>by rw[I,jj];exact h2 j v hj)
  .simp at K
 .simp only[bI]at K;obtain⟨rfl,rfl⟩:=K;cases hx;exact⟨[],iZ G,aA,fun Z=>qS,fun Z I=>by simp[Builtin.firstCells]⟩
 .rename_i b;split at K
  .rename_i e;subst e;simp only[bI]at K;obtain⟨rfl,rfl⟩:=K;cases hx with
   |str M _ hb=>
    subst hb;have hsz:M.data.toList.length=M.size:=by show M.data.toList.length=M.data.size;simp
    refine⟨M.data.toList.map fun x=>.int .u8 x.toNat,⟨aA,fun i c v hc F=>?_⟩,aA,fun Z=>by simp[Builtin.lenOf,hsz],fun Z I=>?_⟩
    .rw[dY]at hc F;cases hi:M.data.toList[i]? with
     |none=>rw[hi]at hc;simp at hc
     |some u=>
      rw[hi]at hc F;simp only[fW,au]at hc F;subst hc F;exact .int _ _
    .simp only[Builtin.firstCells,fp]
     congr 1
     apply iA;have:(M.extract 0 M.data.toList.length).data.toList=M.data.toList:=by
      rw[Lib.extract_data,eN,qU,tH]
     simp only[tE,this]
  .simp at K
 .simp at K
theorem wN(z:Array Value)(n:Nat):(Builtin.zeroCells z n).toList.length=n*z.size:=by simp[Builtin.zeroCells]
theorem wO{t u e ty:TypeId}{C:TypeDesc}(hd:P.underlying t=some (.slice e))(j:P.underlying u=some C)(F:∀k,C≠.int k){s:Nat}(K:P3 P e=some s)
 {a:Option Addr}{len cap n:Nat} (Z:len+n<=cap) {Y:Value}{M:List Value} (I:(Builtin.lenOf Y).run P w=.ok n w) (g:(Builtin.firstCells s n Y).run P w=.ok M.toArray w) :
 (Builtin.append_ #[t,u] ty #[.slice a len cap,Y]).run P w=(match a with
   |some a=>((storeCells (a.add (len*s)) M).run P w).andThen fun _ o=>.ok (.slice (some a) (len+n) cap) o
   |none=>.ok (.slice none (len+n) cap) w):=by
 have V:(match C with|.int _=>true |_=>false)=false:=by cases C<;>first|rfl|exact(F _ rfl).elim
 simp only[Builtin.append_];simp[QV hd,QV j,Sd K,I];rw[az Z,g];cases a<;>simp
theorem wP{t u e ty:TypeId}{C:TypeDesc}(hd:P.underlying t=some (.slice e))(j:P.underlying u=some C)(F:∀k,C≠.int k){s:Nat}(O:P3 P e=some s){b:Nat}(L:QI P e=some b)
 {m:Value} (J:∀w,(zeroValue e).run P w=.ok m w)
 {a:Option Addr}{len cap n:Nat} (Y:cap<len+n) (K:(len+n)*b<=Rd) (Z:len+n<=Rd) {V:Value}{ov M:List Value} (I:(Builtin.lenOf V).run P w=.ok n w) (A:(Builtin.firstCells s n V).run P w.drew=.ok M.toArray w.drew)
 (o:(Builtin.firstCells s len (.slice a len cap)).run P w.drew=.ok ov.toArray w.drew) :
 (Builtin.append_ #[t,u] ty #[.slice a len cap,V]).run P w=.ok (.slice (some ⟨w.heap.size,0,none⟩) (len+n) (grownCap w (len+n) cap e))
   (w.drew.alloc (.cells (ov++M++(Builtin.zeroCells m.cells (grownCap w (len+n) cap e-(len+n))).toList).toArray e)):=by
 have hz':(match C with|.int _=>true |_=>false)=false:=by cases C<;>first|rfl|exact(F _ rfl).elim
 obtain⟨i,hi,z⟩:∃i,P.info? e=some i/\i.bytes=b:=by simpa [QI,jt]using L
 have hm:Rd=70368744177664:=rfl;rw[hm]at K Z;have g:¬(281474976710656<Builtin.nextslicecap (len+n) cap*b):=by
  have:=growslice_fits Y (bytes:=b) aa;omega
 have U:¬(9223372036854775807<((len:Int)+(n:Int))):=aa;have h1:¬(len+n<=cap):=aa;simp only[Builtin.append_];simp[QV hd,QV j,Sd O,I,h1,nj hi,z,U,g,Question.forced,o,A,J,newRow,grownCap]
 congr 2
 apply iA;simp
theorem R.heap{w':World}(h:R B H w G)(e:w'.heap=w.heap):R B H w' G:=by
 have k:∀a,w'.cell? a=w.cell? a:=fun a=>by simp[World.cell?,e]
 have Y:∀a,w'.frozen? a=w.frozen? a:=fun a=>by simp[World.frozen?,e]
 exact{
  base:=by rw[e];exact h.base
  dom:=h.dom
  lt:=fun r b o x hr=>by rw[e];exact h.lt r b o x hr
  cells:=fun r b o x M imm g hr hc j c O=>by rw[k];exact h.cells r b o x M imm g hr hc j c O
  imm:=h.imm
  ext:=h.ext
  fits:=h.fits
  room:=fun r b o x M imm g hr hc j O C=>by rw[k,Y];exact h.room r b o x M imm g hr hc j O C
  apart:=h.apart
  map:=fun r b o x m hr hc=>by rw[e];exact h.map r b o x m hr hc
  mapApart:=h.mapApart
  frz:=fun b o v Z=>by rw[k];exact h.frz b o v Z
  val:=h.val
  sym:=h.sym}
theorem Step.of_drew{U:Nat}{w':World}{L:Gh}(h:Step B U G w.drew H' w' L):Step B U G w H' w' L:=
 ⟨h.r,h.ext,⟨h.fr.os,h.fr.tape,h.fr.output,h.fr.size,h.fr.block⟩,h.new,h.low,h.mono,h.icy⟩
theorem en.first{b o off s len:Nat}{cs:List AV}(Y:en G w b o cs)(I:off+len*s=cs.length){cap:Nat}:
 ∃ov,bl G (cs.drop off) ov/\ov.length=len*s/\∀Z,(∀a,Z.cell? a=w.cell? a)->(Builtin.firstCells s len (.slice (some ⟨b,o+off,none⟩) len cap)).run P Z=.ok ov.toArray Z:=by
 obtain⟨vs,i,V⟩:=(Y.drop off).list;have g:vs.length=len*s:=by rw[<-i.1,hI];omega
 exact⟨vs,i,g,fun Z L=>tG Z s len _ len cap vs g (fun j v O=>by rw[L,jj];exact V j v O)⟩
theorem wQ{u:TypeId}(h:Sr P u=true):∃d,P.underlying u=some d/\∀k,d≠.int k:=by
 unfold Sr at h;split at h
 .rename_i e hd;exact⟨_,hd,aA⟩
 .rename_i hd;exact⟨_,hd,aA⟩
 .simp at h
theorem CK(h:R B H w G)(keep:Bool)(s:Nat)(sv:AV):Step B H.next G w (RJ keep H s sv) w G:=by
 unfold RJ;split
 .rename_i r off len z;split
  .rename_i cs imm hg;split
   .rename_i hc;simp only[dn]at hc;have h1:off+len*s<cs.length:=by simpa [eZ]using hc.1.2
    have h2:=pd hc.2;generalize off+len*s=m at h1 h2;have hgs:∀V b',(H.set r (.cells (cs.take m) imm true)).get V=some b'->(V=r/\b'=.cells (cs.take m) imm true)\/(V≠r/\H.get V=some b'):=fun V b' A=>by
     rw[a9]at A;split at A
     .rename_i e;simp only[au]at A;exact .inl ⟨e,A.symm⟩
     .rename_i e;exact .inr ⟨e,A⟩
    have C:∀V Y Z i,(H.set r (.cells (cs.take m) imm true)).get V=some (.cells Y Z i)->∃g,H.get V=some (.cells g Z i)/\(∀(j:Nat) c,Y[j]?=some c->g[j]?=some c)/\Y.length<=g.length/\(∀x,Q3 x Y i=Q3 x g i):=fun V Y Z i A=>by
     rcases hgs V _ A with⟨rfl,e⟩|⟨_,e⟩
     .simp only[HB.cells.injEq]at e;obtain⟨rfl,rfl,rfl⟩:=e;refine⟨cs,hg,fun j c L=>?_,nl,fun x=>rfl⟩;rw[js]at L;split at L
      .exact L
      .simp at L
     .exact⟨Y,e,fun _ _ h=>h,aC _,fun _=>rfl⟩
    refine⟨?_,ng _,oX _ _,l2 _ _,fun _ _ h=>.inl h,aC _,fun _ _ _ h=>.inl h⟩;exact{
     base:=h.base
     dom:=h.dom
     lt:=h.lt
     cells:=fun V b o x Y Z i hr U j c L=>by
      obtain⟨g,O,e2,_⟩:=C V Y Z i U;exact h.cells V b o x g Z i hr O j c (e2 j c L)
     imm:=fun V b o x Y Z i hr U j L hjl=>by
      obtain⟨g,O,_,e3,_⟩:=C V Y Z i U;exact h.imm V b o x g Z i hr O j L aa
     ext:=fun V b o x Y Z i hr U=>by
      obtain⟨g,O,_,e3,e4⟩:=C V Y Z i U;have:=h.ext V b o x g Z i hr O;rw[e4];omega
     fits:=fun V b o x Y Z i hr U=>by
      obtain⟨g,O,_,e3,e4⟩:=C V Y Z i U;have:=h.fits V b o x g Z i hr O;omega
     room:=fun V b o x Y Z i hr U j L hjl=>by
      obtain⟨g,O,_,_,e4⟩:=C V Y Z i U;exact h.room V b o x g Z i hr O j L (by rw[<-e4];exact hjl)
     apart:=fun PV b1 o1 x1 cs1 K J Qq b2 o2 x2 cs2 I F hr1 hc1 hr2 M hne j j' q1 q2 q3 q4=>by
      obtain⟨cs01,O,_,_,e14⟩:=C PV cs1 K J hc1;obtain⟨cs02,e2,_,_,e24⟩:=C Qq cs2 I F M;exact h.apart PV b1 o1 x1 cs01 K J Qq b2 o2 x2 cs02 I F hr1 O hr2 e2 hne j j' q1 (by rw[<-e14];exact q2) q3 (by rw[<-e24];exact q4)
     map:=fun V b o x es hr U=>by
      rcases hgs V _ U with⟨_,e⟩|⟨_,e⟩
      .simp at e
      .exact h.map V b o x es hr e
     mapApart:=fun PV b1 o1 x1 es Qq b2 o2 x2 hr1 hc1 hr2 M hne=>by
      rcases hgs PV _ hc1 with⟨_,e⟩|⟨_,e⟩
      .simp at e
      .refine h.mapApart PV b1 o1 x1 es Qq b2 o2 x2 hr1 e hr2 ?_ hne;rw[a9]at M;split at M
       .rename_i e2;rw[e2,hg];rfl
       .exact M
     frz:=h.frz
     val:=h.val
     sym:=h.sym}
   .exact fU h
  .exact fU h
 .exact fU h
theorem CL(h:R B H w G){keep:Bool}{t u ty:TypeId}{sv x c:AV}{F xv:Value}(I:VR G sv F)(hx:VR G x xv)(K:Rj P keep H t u sv x=some (c,H')):
 ∃v w' G',(Builtin.append_ #[t,u] ty #[F,xv]).run P w=.ok v w'/\VR G' c v/\Step B H.next G w H' w' G':=by
 unfold Rj at K;split at K
 .rename_i e hd;split at K
  .rename_i s b z hs hb hz;split at K
   .rename_i Th hst C;obtain⟨du,hu,g⟩:=wQ hst;obtain⟨nv,h1,h2,h3,h4⟩:=tK (P:=P) h hx C;have hnv:nv=[]:=by rw[pc]at h2;exact List.length_eq_zero_iff.1 h2
    subst hnv;have key:∀a len cap,F=.slice a len cap->len<=cap->(Builtin.append_ #[t,u] ty #[F,xv]).run P w=.ok F w:=fun a len cap e hlc=>by
     subst e;rw[wO hd hu g hs (n:=0) aa (h3 w) (h4 w (fun _=>rfl))];cases a<;>simp[storeCells]
    split at K
    .simp only[bI]at K;obtain⟨rfl,rfl⟩:=K;refine⟨F,w,G,?_,I,fU h⟩;cases I with
     |sl hr hl hc=>exact key _ _ _ rfl hl
    .simp only[bI]at K;obtain⟨rfl,rfl⟩:=K;refine⟨F,w,G,?_,I,fU h⟩;cases I with
     |lst vs hz hF hv hc=>exact key _ _ _ rfl hc
     |lst0 a cap=>exact key _ _ _ rfl (ca _)
    .simp only[bI]at K;obtain⟨rfl,rfl⟩:=K;refine⟨F,w,G,?_,I,fU h⟩;cases I with
     |nilS=>exact key _ _ _ rfl (aC _)
    .simp at K
   .rename_i n M hnz hst C;obtain⟨du,hu,g⟩:=wQ hst;obtain⟨nv,h1,h2,h3,h4⟩:=tK (P:=P) h hx C;have hn0:n≠0:=fun e=>by subst e;exact hnz rfl
    have hnl:M.length=n*s:=by rw[h1.1,h2]
    obtain⟨zv,hzr,hzv⟩:=o6 hz;split at K
    .rename_i hcond;obtain⟨hone,hzl⟩:=hcond;have hzs:zv.cells.size=s:=by have:=(hzv G).1;rw[hzl]at this;simpa using this.symm
     have ht:=CK h keep s sv
     suffices hgoal:∃v w' G',(Builtin.append_ #[t,u] ty #[F,xv]).run P w=.ok v w'/\VR G' c v/\Step B (RJ keep H s sv).next G w H' w' G' by
      obtain⟨v,w',G',g1,g2,g3⟩:=hgoal;exact⟨v,w',G',g1,g2,ht.trans g3⟩
     replace h:=ht.r;clear ht C;generalize RJ keep H s sv=H at K h⊢;unfold SH at K;split at K
     ·-- onto nil
      split at K
      .rename_i i;simp only[bI]at K;obtain⟨rfl,rfl⟩:=K;cases I;have O:=wP (P:=P) (w:=w) (ty:=ty) hd hu g hs hb hzr (a:=none) (len:=0) (cap:=0) (n:=n) (ov:=[]) aa (by simpa using i.1) (by simpa using i.2) (h3 w) (h4 w.drew (fun _=>rfl)) (by simp[Builtin.firstCells]);have U:=qO (h.heap (w':=w.drew) rfl) h1 (Builtin.zeroCells zv.cells (grownCap w (0+n) 0 e-(0+n))).toList e;have hge:=grownCap_ge w (0+n) 0 e;refine⟨_,_,_,O,?_,U.of_drew⟩;rw[bZ]at hge⊢;refine .sl (SU _ _ _) hge ?_;rw[wN,hzs,h2];have:grownCap w n 0 e*s=n*s+(grownCap w n 0 e-n)*s:=tA;simp;omega
      .simp at K
     ·-- onto a row of its own
      rename_i r off len zz;split at K
      .rename_i cs imm hg;split at K
       .rename_i hcond2;obtain⟨hr1,hr2,hend,rfl,himm⟩:=hcond2;cases I with
        |sl hr hlc hcx=>
         rename_i V L x0 cap;have hHolds:=h.cells _ _ _ _ _ _ _ hr hg;have hex:=h.ext _ _ _ _ _ _ _ hr hg;simp only[Q3]at hex;have hoff:off<=cs.length:=aa;obtain⟨ov,o1,o2,o3⟩:=hHolds.first (P:=P) (off:=off) (s:=zz) (len:=len) hend (cap:=cap)
         have J:r≠H.next:=fun e=>by have:=h.dom _ _ hr;omega
         by_cases A:len+n<=cap
         ·-- in its room
          have O:=wO (P:=P) (w:=w) (ty:=ty) hd hu g hs (a:=some ⟨V,L+off,none⟩) A (h3 w) (h4 w (fun _=>rfl));simp only[]at O;rw[jj,fo,hend]at O;have hcap:(len+n)*zz<=cap*zz:=nr _ A;rw[iD]at hcap;cases keep with
          |false=>
           simp only[b9,cC,bI]at K;obtain⟨rfl,rfl⟩:=K;obtain⟨w',hw,Y⟩:=tu P hr cs.length M nv cs 0 H w h hg h1 (h1.oneCell hone) aa aa oT aA;rw[hw]at O;simp only[cV]at O;rw[np,wu]at Y;have o:=wv Y.r (r:=r) (cs:=cs++M) (imm:=imm) hr dQ (off:=off) cQ;refine⟨_,w',_,O,?_,(Y.trans o).congr rfl fun k _=>?_⟩
           .refine .sl (SU _ _ _) A ?_;omega
           .rw[P8,P8,RH,RH,a9,qV hoff];simp only[SS,QZ];by_cases e1:k=H.next
            .simp only[e1,cr]
            .by_cases e2:k=r
             .simp only[e2,cr]
             .simp only[e1,e2,cC]
          |true=>
           simp only[cr,bI]at K;obtain⟨rfl,rfl⟩:=K;have Z:=o0 h hr hg (n:=cs.length) himm (aC _) true (fun _=>rfl);obtain⟨w',hw,Y⟩:=tu P (G:=G.ice w V L cs.length) (r:=r) (imm:=cs.length) (tip:=true) hr cs.length M nv cs 0 _ w Z.r dQ (h1.mono Z.ext) (h1.oneCell hone) aa aa oT aA;rw[hw]at O;simp only[cV]at O;rw[np,wu]at Y;have hgr:((H.set r (.cells cs cs.length true)).set r (.cells (cs++M) cs.length true)).get r=some (.cells (cs++M) cs.length true):=dQ;have o:=wv Y.r (r:=r) (cs:=cs++M) (imm:=cs.length) hr hgr (off:=off) cQ;have hmid:=(Z.trans Y).trans o;have hrr:((G.ice w V L cs.length).add H.next (V,L+off,x0-off)).β r=some (V,L,x0):=by
            simp only[Gh.add];rw[af J];exact hr
           have hnoMap:∀PV b1 o1 x1 es,((G.ice w V L cs.length).add H.next (V,L+off,x0-off)).β PV=some (b1,o1,x1) ->
            ((((H.set r (.cells cs cs.length true)).set r (.cells (cs++M) cs.length true)).kill r).alloc (.cells ((cs++M).drop off) (cs.length-off) true)).get PV=some (.map es)->b1≠V:=fun PV b1 o1 x1 es g1 g2=>by
            rw[P8,RH,a9,a9]at g2;simp only[SS,QZ]at g2;by_cases hne:PV=H.next
            .simp[hne]at g2
            .by_cases hne2:PV=r
             .simp[hne2]at g2
             .simp only[hne,hne2,cC]at g2;have g1':G.β PV=some (b1,o1,x1):=by simp only[Gh.add]at g1;rw[af hne]at g1;exact g1
              exact h.mapApart PV b1 o1 x1 es r V L x0 g1' g2 hr (by rw[hg];rfl) hne2
           have hHolds':en ((G.ice w V L cs.length).add H.next (V,L+off,x0-off)) w' V L cs:=fun j c hj=>by
            have hjl:j<cs.length:=(cG.1 hj).1;have h5:=Y.r.cells r V L x0 _ _ _ hr hgr j c (by rw[iy hjl];exact hj);obtain⟨v,q1,q2⟩:=h5;exact⟨v,q1,q2.mono o.ext⟩
           have hFF:∀j,j<cs.length->∃v,((G.ice w V L cs.length).add H.next (V,L+off,x0-off)).F V (L+j)=some v:=fun j hj=>
            Z.r.imm r V L x0 cs cs.length true hr dQ j hj hj
           have hrev:=Ck hmid.r hrr (h.fits _ _ _ _ _ _ _ hr hg) hHolds' hFF hnoMap;refine⟨_,w',_,O,?_,(hmid.trans hrev).congr rfl fun k _=>?_⟩
           .refine .sl (SU _ _ _) A ?_;omega
           .rw[a9,P8,P8,RH,a9,a9,a9,qV hoff];simp only[SS,QZ];have:cs.length-off=len*zz:=aa;rw[this];by_cases e1:k=r
            .subst e1;simp only[J,cr,cC]
            .simp only[e1,cC]
         ·-- a M row
          have hfit':cap<len+n:=aa;have O:=wP (P:=P) (w:=w) (ty:=ty) hd hu g hs hb hzr (a:=some ⟨V,L+off,none⟩) hfit' hr1 hr2 (h3 w) (h4 w.drew (fun _=>rfl)) (o3 w.drew (fun _=>rfl));have hge:=grownCap_ge w (len+n) cap e;have hlen2:(ov++nv).length=(len+n)*zz:=by rw[eh,o2,h2,iD]
          have hcapx:grownCap w (len+n) cap e*zz=(ov++nv).length+(Builtin.zeroCells zv.cells (grownCap w (len+n) cap e-(len+n))).toList.length:=by
           rw[wN,hzs,hlen2,<-iD];congr 1;omega
          have U:=(qO (h.heap (w':=w.drew) rfl) (o1.append h1) (Builtin.zeroCells zv.cells (grownCap w (len+n) cap e-(len+n))).toList e).of_drew;have hnn:∀(X:HB) (k:Nat),k≠H.next->(H.alloc X).get k=H.get k:=fun X k hk=>by rw[P8,af hk]
          have m:∀p,(G.add H.next p).β H.next=some p:=fun p=>SU _ _ _
          have hlenX:(cs.drop off++M).length=(len+n)*zz:=by rw[eh,hI,hnl,iD];omega
          cases keep with
          |false=>
           simp only[b9,cC,bI]at K;obtain⟨rfl,rfl⟩:=K;have hk:=U.r.kill r;have hgx:((H.alloc (.cells (cs.drop off++M) 0 true)).kill r).get H.next=some (.cells (cs.drop off++M) 0 true):=by
            rw[RH,af (Ne.symm J),P8,az rfl]
           have Z:=o0 hk (m _) hgx (n:=imm-off) (ca _) (by rw[hlenX,iD];omega) true (fun _=>rfl);have hst2:Step B H.next G w _ _ _:=⟨hk,U.ext,U.fr,U.new,U.low,U.mono,U.icy⟩
           refine⟨_,_,_,O,?_,(hst2.trans Z).congr rfl fun k _=>?_⟩
           .exact .sl (m _) hge aa
           .rw[a9,P8,RH,RH,P8];simp only[SS];by_cases e1:k=H.next
            .simp only[e1,cr]
            .simp only[e1,cC]
          |true=>
           simp only[cr,bI]at K;obtain⟨rfl,rfl⟩:=K;have hgx:(H.alloc (.cells (cs.drop off++M) 0 true)).get H.next=some (.cells (cs.drop off++M) 0 true):=eX
           have Z:=o0 U.r (m _) hgx (n:=len*zz) (ca _) (by rw[hlenX,iD];omega) true (fun _=>rfl);have hgr:((H.alloc (.cells (cs.drop off++M) 0 true)).set H.next (.cells (cs.drop off++M) (len*zz) true)).get r=some (.cells cs imm true):=by
            rw[a9,af J,hnn _ _ J];exact hg
           have hice2:=o0 Z.r (r:=r) (by
            show(G.add H.next _).β r=_;simp only[Gh.add];rw[af J];exact hr) hgr (n:=cs.length) himm (aC _) false aA
           refine⟨_,_,_,O,?_,((U.trans Z).trans hice2).congr rfl fun k _=>?_⟩
           .exact .sl (m _) hge aa
           .rw[a9,a9,P8,P8,a9];simp only[QZ];by_cases e1:k=H.next
            .have e3:¬H.next=r:=fun e=>J e.symm
             simp only[e1,e3,cr,cC]
            .simp only[e1,cC]
       .simp at K
      .simp at K
     .simp at K
    .simp at K
   .simp at K
  .simp at K
 .simp at K
end
section
variable {P:Program} {B:Bs} {G:Gh} {H H':Hp} {w:World}
theorem CM(Y:ByteArray):Y.data.toList.length=Y.size:=by show Y.data.toList.length=Y.data.size;simp
theorem wR(h:R B H w G){m:AV}{mv:Value}{Y:List (AV×AV)}(V:VR G m mv)(Z:lP H m=some Y):
 (mv=.map none/\Y=[])\/∃r b o x ms F,m=.map r/\mv=.map (some b)/\G.β r=some (b,o,x)/\H.get r=some (.map Y)/\w.heap[b]?=some (.map ms F)/\j9 G Y ms.toList:=by
 unfold lP at Z;split at Z
 .simp only[au]at Z;subst Z;cases V;exact .inl ⟨rfl,rfl⟩
 .rename_i r;split at Z
  .rename_i U A;simp only[au]at Z;subst Z;cases V with
   |map hr=>
    rename_i b o x;obtain⟨ms,F,i,g⟩:=h.map r b o x _ hr A;exact .inr ⟨r,b,o,x,ms,F,rfl,rfl,hr,A,i,g⟩
  .simp at Z
 .simp at Z
theorem pf{b:Nat}{ms:Array MapEntry}{F:Nat}(h:w.heap[b]?=some (.map ms F)):(getObj b).run P w=.ok (.map ms F) w:=by
 simp[getObj,Sem.run,h]
theorem CN(h:R B H w G){t ty:TypeId}{x c:AV}{Y:Value}(C:VR G x Y)(I:Qr P H t x=some c):∃v,(Builtin.len_ #[t] ty #[Y]).run P w=.ok v w/\VR G c v:=by
 unfold Qr at I;split at I
 .rename_i hd;split at I
  .simp only[au]at I;subst I;cases C with
   |str M _ K=>
    subst K;refine⟨_,?_,.int _ _⟩;rw[CM];simp[Builtin.len_,QV hd,goInt]
  .simp at I
 .rename_i e hd;split at I
  .simp only[au]at I;subst I;cases C;exact⟨_,o8,.int _ _⟩
  .simp only[au]at I;subst I;cases C
   .exact⟨_,o8,.int _ _⟩
   .exact⟨_,o8,.int _ _⟩
  .simp only[au]at I;subst I;cases C;exact⟨_,o8,.int _ _⟩
  .simp at I
 .rename_i n e hd;simp only[au]at I;subst I;refine⟨.int .i64 n,?_,.int _ _⟩;simp only[Builtin.len_];simp[QV hd,goInt]
 .rename_i O e hd;split at I
  .rename_i m V;simp only[au]at I;subst I;rcases wR h C V with⟨rfl,rfl⟩|⟨r,b,o,U,ms,F,rfl,rfl,hr,A,L,Z⟩
   .exact⟨_,o8,.int _ _⟩
   .refine⟨.int .i64 m.length,?_,.int _ _⟩;have:ms.size=m.length:=by have:=Z.1;simpa using this.symm
    simp[Builtin.len_,QV hd,pf L,goInt,this]
  .simp at I
 .simp at I
theorem CO{J:Bool}{x y c:AV}{F Z:Value}(C:VR G x F)(A:VR G y Z)(h:mm J x y=some c):∃v,((if J then Builtin.max2 else Builtin.min2) F Z).run P w=.ok v w/\VR G c v:=by
 unfold mm at h;split at h
 .simp only[au]at h;subst h;cases C;cases A;cases J
  .refine⟨_,rfl,?_⟩;simp only[b9,cC,i4];exact .int _ _
  .refine⟨_,rfl,?_⟩;simp only[cr,i4];exact .int _ _
 .simp at h
theorem tL{J:Bool}:∀{K:List AV}{M:List Value}{x c:AV}{F:Value},VR G x F->bl G K M->kO J x K=some c ->
 ∃v,(M.foldlM (if J then Builtin.max2 else Builtin.min2) F).run P w=.ok v w/\VR G c v
 |[],M,x,c,F,hx,hxs,h=>by
  simp only[kO,au]at h;subst h;have:M=[]:=by have:=hxs.1;simpa using this.symm
  subst this;exact⟨F,rfl,hx⟩
 |y::ys,[],_,_,_,_,hxs,_=>by have:=hxs.1;simp at this
 |y::ys,yv::yvs,x,c,F,hx,hxs,h=>by
  obtain⟨i,g⟩:=hxs.of_cons;simp only[kO]at h;split at h
  .rename_i z C;obtain⟨m,Y,Z⟩:=CO (P:=P) (w:=w) hx i C;obtain⟨v,k1,k2⟩:=tL Z g h;exact⟨v,by rw[List.foldlM_cons,cR,Y];exact k1,k2⟩
  .simp at h
theorem tM{t:TypeId}{d:TypeDesc}(h:jN P t=some d):P.underlying t=some d/\((∃k,d=.int k)\/d=.string\/d=.bool):=by
 unfold jN at h;split at h<;>simp only[au,reduceCtorEq]at h<;>subst h
 .rename_i k hd;exact⟨hd,.inl ⟨k,rfl⟩⟩
 .rename_i hd;exact⟨hd,.inr (.inl rfl)⟩
 .rename_i hd;exact⟨hd,.inr (.inr rfl)⟩
theorem tN{d:TypeDesc}{x y:AV}{F Z:Value}{r:Bool}(C:VR G x F)(A:VR G y Z)(h:jp d x y=some r):Instr.sameNow d F Z=some r:=by
 unfold jp at h;split at h
 .split at h
  .cases C;cases A;exact h
  .simp at h
 .split at h
  .cases C with
   |str a _ K=>cases A with
    |str b _ z=>
     subst K z;simp only[au]at h;subst h;simp only[Instr.sameNow,au];show(a.data == b.data)=(a.data.toList == b.data.toList);rw[Bool.eq_iff_iff];simp only[iC,Array.toList_inj]
  .simp at h
 .split at h
  .cases C;cases A;exact h
  .simp at h
 .simp at h
theorem tO{d:TypeDesc}{k:AV}{kv:Value}(Y:VR G k kv):∀{Z:List (AV×AV)}{ms:List MapEntry}{i:Nat},j9 G Z ms ->
 (jo d k Z i=some none->Instr.findNow d kv ms i=some none) /\
 (∀j v,jo d k Z i=some (some (j,v))->∃k' m,Z[j-i]?=some (k',v)/\ms[j-i]?=some m/\i<=j/\jp d k k'=some true/\Instr.findNow d kv ms i=some (some (j,m.val)))
 |[],ms,i,he=>by
  have:ms=[]:=by have:=he.1;simpa using this.symm
  subst this;exact⟨fun _=>rfl,fun j v h=>by simp[jo]at h⟩
 |e::Z,[],i,he=>by have:=he.1;simp at this
 |(k',A)::Z,m::ms,i,he=>by
  obtain⟨V,F⟩:=he.2 0 (k',A) m rfl rfl;have O:j9 G Z ms:=⟨by simpa using he.1,fun j a b K z=>he.2 (j+1) a b (by simpa using K) (by simpa using z)⟩;obtain⟨PV,Qq⟩:=tO (d:=d) Y (i:=i+1) O;constructor
  .intro h;simp only[jo]at h;split at h
   .simp at h
   .rename_i g;have:=tN Y V g;simp only[Instr.findNow,this];exact PV h
   .simp at h
  .intro j v h;simp only[jo]at h;split at h
   .rename_i g;simp only[bI]at h;obtain⟨rfl,rfl⟩:=h;have:=tN Y V g;exact⟨k',m,aA,aA,aC _,g,by simp only[Instr.findNow,this]⟩
   .rename_i g;have:=tN Y V g;obtain⟨k2,M,L,J,C,o,I⟩:=Qq j v h;have U:j-i=(j-(i+1))+1:=aa;refine⟨k2,M,by rw[U];simpa using L,by rw[U];simpa using J,aa,o,?_⟩;simp only[Instr.findNow,this];exact I
   .simp at h
theorem CP(n:Nat){O:TypeId}{d:TypeDesc}(hd:jN P O=some d)(e:Bool)(kv:Value):(Instr.checkKey e (n+1) O kv).run P w=.ok () w:=by
 obtain⟨i,g⟩:=tM hd;simp only[Instr.checkKey,cR,QV i,cV];rcases g with⟨k,rfl⟩|rfl|rfl<;>rfl
theorem Ta{O:TypeId}{d:TypeDesc}(hd:jN P O=some d)(e:Bool)(kv:Value):(Instr.checkKey e 10000 O kv).run P w=.ok () w:=CP 9999 hd e kv
theorem ph{O:TypeId}{d:TypeDesc}(hd:P.underlying O=some d){kv:Value}{ms:List MapEntry}{r:Option (Nat×Value)}(h:Instr.findNow d kv ms 0=some r):(Instr.findKey O kv ms).run P w=.ok r w:=by
 simp[Instr.findKey,QV hd,h]
theorem CQ{t O e:TypeId}{d:TypeDesc}(hd:P.underlying t=some (.map O e))(Y:jN P O=some d){mv kv:Value}{ok:Bool}{ms:Array MapEntry}
 (V:(mv=.map none/\ms=#[])\/∃b F,mv=.map (some b)/\w.heap[b]?=some (.map ms F)) :
 (∀j v,Instr.findNow d kv ms.toList 0=some (some (j,v))->(Instr.lookup t mv kv ok).run P w=.ok (if ok then .tuple #[v,.bool true]else v) w) /\
 (∀m,(zeroValue e).run P w=.ok m w->Instr.findNow d kv ms.toList 0=some none->(Instr.lookup t mv kv ok).run P w=.ok (if ok then .tuple #[m,.bool false]else m) w):=by
 have o:=(tM Y).1;rcases V with⟨rfl,rfl⟩|⟨b,F,rfl,L⟩
 .refine⟨fun j v Z=>by simp[Instr.findNow]at Z,fun m C Z=>?_⟩;have g:=ph (P:=P) (w:=w) o Z;simp only[Instr.lookup,cR,QV hd,cV,fp,Ta Y,g,C]
 .refine⟨fun j v Z=>?_,fun m C Z=>?_⟩
  .have g:=ph (P:=P) (w:=w) o Z;simp only[Instr.lookup,cR,QV hd,cV,pf L,fp,Ta Y,g]
  .have g:=ph (P:=P) (w:=w) o Z;simp only[Instr.lookup,cR,QV hd,cV,pf L,fp,Ta Y,g,C]
theorem CR(h:R B H w G){t:TypeId}{m k c:AV}{mv kv:Value}{ok:Bool}(M:VR G m mv)(L:VR G k kv)(I:R2 P H t m k ok=some c):
 ∃v,(Instr.lookup t mv kv ok).run P w=.ok v w/\VR G c v:=by
 unfold R2 at I;split at I
 .rename_i kt e hd;split at I
  .rename_i K Z Y z;obtain⟨ms,U,V⟩:∃ms:Array MapEntry,((mv=.map none/\ms=#[])\/∃b F,mv=.map (some b)/\w.heap[b]?=some (.map ms F))/\j9 G K ms.toList:=by
    rcases wR h M Y with⟨rfl,rfl⟩|⟨r,b,o,xx,ms,F,rfl,rfl,hr,hg,hw,he⟩
    .exact⟨#[],.inl ⟨rfl,rfl⟩,rfl,aA⟩
    .exact⟨ms,.inr ⟨b,F,rfl,hw⟩,he⟩
   obtain⟨A,C⟩:=tO (d:=Z) L (i:=0) V;obtain⟨PV,Qq⟩:=CQ (kv:=kv) (ok:=ok) hd z U;split at I
   .rename_i j v g;simp only[au]at I;subst I;obtain⟨k',m',g1,g2,_,_,g5⟩:=C j v g;have J:=(V.2 _ _ _ g1 g2).2;refine⟨_,PV _ _ g5,?_⟩;cases ok
    .exact J
    .exact .tup (vs:=[m'.val,.bool true]) rfl (fq J (fq (.bool true) (iZ _))).2
   .rename_i g;split at I
    .rename_i v J;simp only[au]at I;subst I;obtain⟨zv,z1,O⟩:=Cl J;refine⟨_,Qq _ (z1 w) (A g),?_⟩;cases ok
     .exact O G
     .exact .tup (vs:=[zv,.bool false]) rfl (fq (O G) (fq (.bool false) (iZ _))).2
    .simp at I
   .simp at I
  .simp at I
 .simp at I
end
section
variable {P:Program} {B:Bs} {G:Gh} {H H':Hp} {w:World}
theorem wS(h:R B H w G){r b o x:Nat}{es O:List (AV×AV)}{ms':Array MapEntry}{clock':Nat}(hr:G.β r=some (b,o,x))(hg:H.get r=some (.map es))(he:j9 G O ms'.toList):
 Step B H.next G w (H.set r (.map O)) {w with heap:=w.heap.setIfInBounds b (.map ms' clock') } G:=by
 obtain⟨ms,clock,hw,_⟩:=h.map r b o x es hr hg;have hb:b<w.heap.size:=(h.lt r b o x hr).2
 let w':World:={w with heap:=w.heap.setIfInBounds b (.map ms' clock') }
 have Z:∀k,k≠b->w'.heap[k]?=w.heap[k]?:=fun k Y=>by
  show(w.heap.setIfInBounds b _)[k]?=_;rw[l1,af (Ne.symm Y)]
 have hheapb:w'.heap[b]?=some (.map ms' clock'):=by
  show(w.heap.setIfInBounds b _)[b]?=_;simp[hb]
 have A:∀K J v,w.cell? ⟨K,J,none⟩=some v->K≠b:=fun K J v hc e=>by
  subst e;unfold World.cell? at hc;rw[hw]at hc;simp at hc
 have V:∀K J v,w.cell? ⟨K,J,none⟩=some v->w'.cell? ⟨K,J,none⟩=some v:=fun K J v hc=>by
  rw[World.cell?_of_block (w:=w) (Z K (A K J v hc))];exact hc
 have F:∀k,k≠r->(H.set r (.map O)).get k=H.get k:=fun k Y=>by rw[a9,af Y]
 have z:(H.set r (.map O)).get r=some (.map O):=dQ;refine⟨?_,ng _,⟨rfl,rfl,rfl,aA,fun k Y hn=>Z k (fun e=>hn r b o x hr e.symm)⟩,l2 _ _,fun _ _ h=>.inl h,aC _,fun _ _ _ h=>.inl h⟩;exact{
  base:=by have:=h.base;simpa using this
  dom:=h.dom
  lt:=fun r b o x hr=>by have:=h.lt r b o x hr;simpa using this
  cells:=fun k K J U M imm g Y hc=>by
   by_cases e:k=r
   .subst e;rw[z]at hc;simp at hc
   .rw[F k e]at hc;intro j c hj;obtain⟨v,h1,h2⟩:=h.cells k K J U M imm g Y hc j c hj;exact⟨v,V _ _ _ h1,h2⟩
  imm:=fun k K J U M imm g Y hc=>by
   by_cases e:k=r
   .subst e;rw[z]at hc;simp at hc
   .rw[F k e]at hc;exact h.imm k K J U M imm g Y hc
  ext:=fun k K J U M imm g Y hc=>by
   by_cases e:k=r
   .subst e;rw[z]at hc;simp at hc
   .rw[F k e]at hc;exact h.ext k K J U M imm g Y hc
  fits:=fun k K J U M imm g Y hc=>by
   by_cases e:k=r
   .subst e;rw[z]at hc;simp at hc
   .rw[F k e]at hc;exact h.fits k K J U M imm g Y hc
  room:=fun k K J U M imm g Y hc j hj hjl=>by
   by_cases e:k=r
   .subst e;rw[z]at hc;simp at hc
   .rw[F k e]at hc;obtain⟨⟨v,h1⟩,h2,h3⟩:=h.room k K J U M imm g Y hc j hj hjl;refine⟨⟨v,V _ _ _ h1⟩,?_,h3⟩;rw[World.frozen?_of_block (w:=w) (Z K (A _ _ _ h1))];exact h2
  apart:=fun k1 b1 o1 x1 cs1 imm1 tip1 k2 b2 o2 x2 cs2 imm2 tip2 I L C m=>by
   by_cases e1:k1=r
   .subst e1;rw[z]at L;simp at L
   .by_cases e2:k2=r
    .subst e2;rw[z]at m;simp at m
    .rw[F k1 e1]at L;rw[F k2 e2]at m;exact h.apart k1 b1 o1 x1 cs1 imm1 tip1 k2 b2 o2 x2 cs2 imm2 tip2 I L C m
  map:=fun k K J U i Y hc=>by
   by_cases e:k=r
   .subst e;have hk':=Y;rw[hr]at hk';simp only[bI]at hk';obtain⟨rfl,rfl,rfl⟩:=hk';rw[z]at hc;simp only[au,HB.map.injEq]at hc;subst hc;exact⟨ms',clock',hheapb,he⟩
   .rw[F k e]at hc;obtain⟨ms1,clock1,h1,h2⟩:=h.map k K J U i Y hc;refine⟨ms1,clock1,?_,h2⟩;rw[Z K (fun eb=>h.mapApart k K J U i r b o x Y hc hr (by rw[hg];rfl) e eb)];exact h1
  mapApart:=fun k1 b1 o1 x1 i k2 b2 o2 x2 I L C hs hne=>by
   have hs':(H.get k2).isSome:=by
    by_cases e2:k2=r
    .subst e2;rw[hg];rfl
    .rw[F k2 e2]at hs;exact hs
   by_cases e1:k1=r
   .subst e1;exact h.mapApart k1 b1 o1 x1 es k2 b2 o2 x2 I hg C hs' hne
   .rw[F k1 e1]at L;exact h.mapApart k1 b1 o1 x1 i k2 b2 o2 x2 I L C hs' hne
  frz:=fun K J v hf=>V _ _ _ (h.frz K J v hf)
  val:=h.val
  sym:=h.sym}
theorem wT{b:Nat}{ms ms':Array MapEntry}{F clock':Nat}(h:w.heap[b]?=some (.map ms F)):
 (setObj b (.map ms' clock')).run P w=.ok () {w with heap:=w.heap.setIfInBounds b (.map ms' clock') }:=by
 simp[setObj,Sem.run,h]
theorem CS(n:Nat){d:TypeDesc}{x y:AV}{F Z:Value}(C:VR G x F)(A:VR G y Z)(h:jp d x y=some true):Instr.sameBits n Z F=true:=by
 unfold jp at h;split at h
 .split at h
  .split at h
   .rename_i e;subst e;cases C;cases A;simp only[au,iC]at h;subst h;cases n<;>simp[Instr.sameBits]
   .simp at h
  .simp at h
 .split at h
  .cases C with
   |str a _ K=>cases A with
    |str b _ z=>
     subst K z;simp only[au,iC]at h;have i:(b == a)=true:=by
      show(b.data == a.data)=true;simp only[iC];exact(iA h).symm
     cases n<;>simp[Instr.sameBits,i]
  .simp at h
 .split at h
  .cases C;cases A;simp only[au,iC]at h;subst h;cases n<;>simp[Instr.sameBits]
  .simp at h
 .simp at h
theorem CT{L M:Value}(h:Instr.sameBits 10000 L M=true):(Instr.keyThatStays L M).run P w=.ok M w:=by
 unfold Instr.keyThatStays;rw[az h];rfl
theorem CU(h:R B H w G){t:TypeId}{m k v:AV}{mv kv L:Value}(hm:VR G m mv)(J:VR G k kv)(hv:VR G v L)(Z:SD P H t m k v=some H'):
 ∃w',(Instr.mapUpdate t mv kv L).run P w=.ok () w'/\Step B H.next G w H' w' G:=by
 unfold SD at Z;split at Z
 .rename_i kt e hd;split at Z
  .rename_i r I z;split at Z
   .rename_i es hg;cases hm with
    |map hr=>
     rename_i b o x;obtain⟨ms,F,C,g⟩:=h.map r b o x es hr hg;obtain⟨f1,f2⟩:=tO (d:=I) J (i:=0) g;have U:=(tM z).1;split at Z
     .rename_i j v0 hf;simp only[au]at Z;subst Z;obtain⟨k',m',g1,A,_,g4,g5⟩:=f2 j v0 hf;simp only[qU]at g1 A;have hjl:j<ms.size:=by have:=(cG.1 A).1;simpa using this
      have O:ms[j]?=some m':=kY;have Y:=CS 10000 J (g.2 j _ _ g1 A).1 g4;have V:=ph (P:=P) (w:=w) U g5;refine⟨_,?_,wS h hr hg (ms':=ms.modify j fun e=>{e with key:=kv,val:=L}) (clock':=F) ?_⟩
      .simp only[Instr.mapUpdate,cR,QV hd,cV,pf C,Ta z,V,O,fW,bh,CT Y,wT C]
      .refine⟨by have:=g.1;simpa using this,fun i a c K hc=>?_⟩;rw[tI]at K;rw[pe,Array.getElem?_modify]at hc;by_cases e:j=i
       .subst e;rw[az rfl]at hc;rw[az rfl]at K;split at K
        .simp only[au]at K;subst K;rw[O]at hc;simp only[fW,au]at hc;subst hc;exact⟨J,hv⟩
        .simp at K
       .rw[af e]at K hc;exact g.2 i a c K qI
     .rename_i hf;simp only[au]at Z;subst Z;have V:=ph (P:=P) (w:=w) U (f1 hf);refine⟨_,?_,wS h hr hg (ms':=ms.push {key:=kv,val:=L,born:=F}) (clock':=F+1) ?_⟩
      .simp only[Instr.mapUpdate,cR,QV hd,cV,pf C,Ta z,V,wT C]
      .refine⟨by have:=g.1;simpa using this,fun i a c K hc=>?_⟩;rw[Array.toList_push]at hc;have hl:=g.1;by_cases hi:i<es.length
       .rw[iy hi]at K;rw[iy aa]at hc;exact g.2 i a c K hc
       .rw[j8 aa]at K;rw[j8 aa]at hc;rw[<-hl]at hc;cases M:i-es.length with
        |zero=>
         rw[M]at K hc;simp at K hc;subst K hc;exact⟨J,hv⟩
        |succ n=>rw[M]at K;simp at K
     .simp at Z
   .simp at Z
  .simp at Z
 .simp at Z
theorem wU:∀{M:List AV}{bs:List UInt8}{vs:List Value},lS M=some bs->bl G M vs->∃Z:List Int,vs=Z.map (Value.int .u8)/\bs=Z.map fun n=>UInt8.ofNat n.toNat
 |[],bs,vs,h,hv=>by
  simp only[lS,au]at h;subst h;have:vs=[]:=by have:=hv.1;simpa using this.symm
  subst this;exact⟨[],rfl,rfl⟩
 |c::M,bs,[],h,hv=>by have:=hv.1;simp at this
 |c::M,bs,v::vs,h,hv=>by
  obtain⟨i,g⟩:=hv.of_cons;unfold lS at h;split at h
  .rename_i e;simp at e
  .rename_i n Y e;simp only[dz]at e;obtain⟨rfl,rfl⟩:=e;split at h
   .rename_i m z;simp only[au]at h;subst h;obtain⟨Z,rfl,rfl⟩:=wU z g;cases i;exact⟨n::Z,rfl,rfl⟩
   .simp at h
  .simp at h
theorem CV(M:List Int):∀s:ByteArray,(M.foldl (fun r n=>r.push (UInt8.ofNat n.toNat)) s).data.toList=s.data.toList++M.map fun n=>UInt8.ofNat n.toNat:=by
 induction M with
 |nil=>intro s;simp
 |cons n M ih=>intro s;rw[List.foldl_cons,ih];simp[ByteArray.push]
theorem CW(h:R B H w G){C Z:TypeId}{x c:AV}{L:Value}(Y:VR G x L)(V:RU P H C Z x=some c):∃v,(convert C Z L).run P w=.ok v w/\VR G c v:=by
 unfold RU at V;split at V
 .rename_i e K hd;split at V
  .rename_i F;split at V
   .rename_i n cs U;split at V
    .rename_i bs j;obtain⟨nv,i,h2,J,h4⟩:=tK (P:=P) h Y U;obtain⟨M,I,rfl⟩:=wU j i;split at V
     .simp only[au]at V;subst V;cases Y with
      |sl hr hl hcx=>
       rename_i b o xx A;have m:=J w;simp[Builtin.lenOf]at m;subst m;have g:=h4 w (fun _=>rfl);simp only[Builtin.firstCells,jw]at g;rw[I]at g;refine⟨_,by rw[run_convert_bytes_string w C Z e _ _ _ K F hd,run_bytesToString w _ _ _ M g],.str _ _ ?_⟩;rw[CV];rfl
     .simp only[au]at V;subst V;cases Y;have m:=J w;simp[Builtin.lenOf]at m;have:M=[]:=by
       have e1:(M.map (Value.int .u8)).length=0:=by rw[<-I,h2,<-m]
       simpa using e1
      subst this;refine⟨.string .empty,?_,.str _ _ rfl⟩;rw[run_convert_bytes_string w C Z e _ _ _ K F hd];rfl
     .simp at V
    .simp at V
   .simp at V
  .simp at V
 .rename_i ds k z K hd;split at V
  .simp only[au]at V;subst V;cases Y;refine⟨_,?_,.int _ _⟩;simp[convert,QV K,QV hd,Conv.intToInt]
  .simp only[au]at V;subst V;cases Y;rename_i k0 e0;refine⟨_,?_,.sx _ _⟩;simp[convert,QV K,QV hd,Conv.intToInt,Sx.eval]
  .simp at V
 .rename_i z K hd;split at V
  .simp only[au]at V;subst V;have O:=Y;cases Y with
   |str sv _ F=>
    refine⟨.string sv,?_,O⟩;simp[convert,QV K,QV hd]
  .simp at V
 .simp at V
end
section
variable {P:Program} {B:Bs} {G:Gh} {H H':Hp} {w:World}
def l7(G:Gh)(E:ai)(a:Act)(xs:Array Operand):Prop:=∀x∈xs,∀c,PS E x=some c->VR G c (a.eval x)
theorem rb{E:ai}{a:Act}:∀{K:List Operand}{M:List AV},(∀x∈K,∀c,PS E x=some c->VR G c (a.eval x))->Rt E K=some M->bl G M (K.map a.eval)
 |[],M,_,h=>by
  simp only[Rt,au]at h;subst h;exact iZ G
 |x::K,M,hk,h=>by
  simp only[Rt]at h;split at h
  .rename_i v vs J I;simp only[au]at h;subst h;exact fq (hk x aA v J) (rb (fun y A=>hk y (by simp[A])) I)
  .simp at h
theorem Se{s:Sem Value}{c:AV}(h:R B H w G)(K:∃v,s.run P w=.ok v w/\VR G c v):l4 P B H G w (do pure (.value (<-s))) c H:=by
 obtain⟨v,i,g⟩:=K;exact⟨.value v,w,G,v,by simp[i],.inl rfl,g,fU h⟩
theorem ns{s:Sem Value}{c:AV}(K:∃v o L,s.run P w=.ok v o/\VR L c v/\Step B H.next G w H' o L):l4 P B H G w (do pure (.value (<-s))) c H':=by
 obtain⟨v,o,L,i,g,Z⟩:=K;exact⟨.value v,o,L,v,by simp[i],.inl rfl,g,Z⟩
theorem wV{s:Sem Unit}(K:∃o,s.run P w=.ok () o/\Step B H.next G w H' o G):l4 P B H G w (do s;pure .skip) QQ H':=by
 obtain⟨o,i,g⟩:=K;exact⟨.skip,o,G,undef,by simp[i],.inr ⟨rfl,rfl⟩,oY G,g⟩
theorem wW{E:ai}{a:Act}{x:Option Operand}{c:Option AV}(j:∀y∈x.toArray,∀c,PS E y=some c->VR G c (a.eval y))(h:RV E x=some c):l6 G c (x.map a.eval):=by
 unfold RV at h;split at h
 .simp only[au]at h;subst h;exact trivial
 .rename_i y;split at h
  .rename_i v J;simp only[au]at h;subst h;exact j y aA v J
  .simp at h
theorem CX{D:BinOp->Sx->Sx->Option Bool}{E:ai}{a:Act}{o:Oper}{c:AV}(j:kR o=true)(g:l7 G E a o.op.operands)(hop:bP P D E H o.op=some (c,H')):i3 P G w (execOp a.eval o) Next.value c H H':=by
 obtain⟨Y,V,ty,U,M,guard⟩:=o;simp only[]at hop g;cases V<;>simp only[kR,Ro,b9]at j
 case alloc t=>
  simp only[bP]at hop;unfold oG at hop;split at hop
  .rename_i z C;simp only[bI]at hop;obtain⟨rfl,rfl⟩:=hop;obtain⟨m,O,K⟩:=o6 C;refine i3.next ⟨.cells z 0 true,.cells (m.cells.toList++[]).toArray t,m.cells.toList.length+0,.pointer (some ⟨w.heap.size,0,none⟩),rfl,?_,.cells z m.cells.toList [] t (K G),fun L hG=>.ptr (off:=0) hG⟩
   simp[Instr.alloc,O,newVar,newRow]
  .simp at hop
 case box t x=>
  simp only[bP]at hop;unfold oH at hop;split at hop
  .rename_i v Z;simp only[bI]at hop;obtain⟨rfl,rfl⟩:=hop;have hx:=(g x cW _ Z).cells;refine i3.next ⟨.cells v.cells 0 true,.cells ((a.eval x).cells.toList++[]).toArray t,(a.eval x).cells.toList.length+0,.pointer (some ⟨w.heap.size,0,none⟩),rfl,?_,.cells v.cells _ [] t hx,fun L hG=>.ptr (off:=0) hG⟩
   simp[Instr.box,newVar,newRow]
  .simp at hop
 case buildSlice t len parts=>
  simp only[bP]at hop;unfold S8 at hop;split at hop
  .rename_i ps J;obtain⟨F,A⟩:=qY (G:=G) (a:=a) (fun p hp=>g p.2 tB) J;have:=wL (P:=P) (w:=w) F A hop;have he:(parts.toList.map fun x=>(x.1,a.eval x.2)).toArray=parts.map fun(i,x)=>(i,a.eval x):=by
    apply iA;simp
   rw[he]at this;exact this.next
  .simp at hop
 case makeMap t r=>
  simp only[bP]at hop;unfold oL at hop;split at hop
  .simp only[bI]at hop;obtain⟨rfl,rfl⟩:=hop;refine i3.next ⟨.map [],.map #[] 0,0,.map (some w.heap.size),rfl,?_,.map,fun L hG=>.map hG⟩
   simp[Instr.makeMap]
  .simp at hop
 case makeSlice t l c'=>
  simp only[bP]at hop;unfold oM at hop;split at hop
  .rename_i lv cv I hc;exact(wM (g l cW _ I) (g c' cW _ hc) hop).next
  .simp at hop
 case call cl=>
  simp only[bP,reduceCtorEq]at hop
theorem CY(h:R B H w G){E:ai}{a:Act}{o:Oper}{c:AV}(g:l7 G E a o.op.operands)(hop:bP P B.cfg.dec E H o.op=some (c,H')):l4 P B H G w (execOp a.eval o) c H':=by
 obtain⟨dst,op,ty,pos,after,guard⟩:=o;simp only[]at hop g;cases op<;>simp only[bP,reduceCtorEq]at hop
 case move x=>
  obtain⟨Z,rfl⟩:=R8 hop;exact nk h rfl (g x cW _ Z)
 case assign x=>
  obtain⟨Z,rfl⟩:=R8 hop;exact nk h rfl (g x cW _ Z)
 case pick x y z=>
  unfold qt at hop;split at hop
  .rename_i hc;obtain⟨Z,rfl⟩:=R8 hop;have U:=g x cW _ hc;have:a.eval x=.bool true:=by generalize a.eval x=v at U;cases U;rfl
   exact nk h (v:=a.eval y) (by simp[execOp,asBool,this]) (g y cW _ Z)
  .rename_i hc;obtain⟨Z,rfl⟩:=R8 hop;have U:=g x cW _ hc;have:a.eval x=.bool false:=by generalize a.eval x=v at U;cases U;rfl
   exact nk h (v:=a.eval z) (by simp[execOp,asBool,this]) (g z cW _ Z)
  .simp at hop
 case alloc t=>
  unfold oG at hop;split at hop
  .rename_i z hz;simp only[bI]at hop;obtain⟨rfl,rfl⟩:=hop;obtain⟨zv,z1,z2⟩:=o6 hz;have I:=qO h (z2 G) [] t;rw[b8,nq]at I;refine ns ⟨.pointer (some ⟨w.heap.size,0,none⟩),_,_,?_,?_,I⟩
   .simp[Instr.alloc,z1,newVar,newRow]
   .exact .ptr (off:=0) (SU _ _ _)
  .simp at hop
 case box t x=>
  unfold oH at hop;split at hop
  .rename_i v J;simp only[bI]at hop;obtain⟨rfl,rfl⟩:=hop;have I:=qO h (g x cW _ J).cells [] t;rw[b8,nq]at I;refine ns ⟨.pointer (some ⟨w.heap.size,0,none⟩),_,_,?_,?_,I⟩
   .simp[Instr.box,newVar,newRow]
   .exact .ptr (off:=0) (SU _ _ _)
  .simp at hop
 case build t parts=>
  unfold qu at hop;split at hop
  .rename_i ps V;obtain⟨Z,rfl⟩:=R8 hop;obtain⟨q1,q2⟩:=qY (G:=G) (a:=a) (fun p hp=>g p.2 tB) V;have:=CG (P:=P) (w:=w) q1 q2 Z;have O:(parts.toList.map fun x=>(x.1,a.eval x.2)).toArray=parts.map fun(i,x)=>(i,a.eval x):=by
    apply iA;simp
   rw[O]at this;exact Se h this
  .simp at hop
 case buildSlice t len parts=>
  unfold S8 at hop;split at hop
  .rename_i ps V;obtain⟨q1,q2⟩:=qY (G:=G) (a:=a) (fun p hp=>g p.2 tB) V;have:=(wL (P:=P) (w:=w) q1 q2 hop).sim h;have O:(parts.toList.map fun x=>(x.1,a.eval x.2)).toArray=parts.map fun(i,x)=>(i,a.eval x):=by
    apply iA;simp
   rw[O]at this;exact ns this
  .simp at hop
 case load t x=>
  unfold oJ at hop;split at hop
  .rename_i v J;obtain⟨Z,rfl⟩:=R8 hop;exact Se h (wC h (g x cW _ J) Z)
  .simp at hop
 case store t x y=>
  unfold qv at hop;split at hop
  .rename_i av vv ha J;split at hop
   .rename_i H1 K;simp only[bI]at hop;obtain⟨rfl,rfl⟩:=hop;exact wV (Cm h (g x cW _ ha) (g y cW _ J) K)
   .simp at hop
  .simp at hop
 case nilCheck x=>
  unfold qw at hop;split at hop
  .rename_i r off J;simp only[bI]at hop;obtain⟨rfl,rfl⟩:=hop;have C:=g x cW _ J;refine nk h (v:=a.eval x) ?_ C;simp only[execOp];generalize a.eval x=v at C⊢;cases C;rfl
  .rename_i cs J;simp only[bI]at hop;obtain⟨rfl,rfl⟩:=hop;have C:=g x cW _ J;refine nk h (v:=a.eval x) ?_ C;simp only[execOp];generalize a.eval x=v at C⊢;cases C;rfl
  .simp at hop
 case binOp op t x y yt=>
  unfold qx at hop;split at hop
  .rename_i F yv C A;obtain⟨Z,rfl⟩:=R8 hop;exact Se h (CC (by rw[h.val];exact h.sym) (g x cW _ C) (g y cW _ A) Z)
  .simp at hop
 case unOp op t x=>
  unfold qy at hop;split at hop
  .rename_i F C;obtain⟨Z,rfl⟩:=R8 hop;exact Se h (CD (g x cW _ C) Z)
  .simp at hop
 case convert s d x=>
  unfold oK at hop;split at hop
  .rename_i F C;obtain⟨Z,rfl⟩:=R8 hop;exact Se h (CW h (g x cW _ C) Z)
  .simp at hop
 case makeFunc fn first captured=>
  unfold qz at hop;split at hop
  .rename_i f vs Y L;simp only[bI]at hop;obtain⟨rfl,rfl⟩:=hop;have hf:first=#[]:=by apply iA;simpa using Y
   subst hf;have:=rb (G:=G) (a:=a) (fun x C=>g x (by simp[Op.operands];simpa using C)) L;refine Se h ⟨.func (.func f) #[] (captured.map a.eval),by simp[Instr.makeFunc],?_⟩;have O:captured.map a.eval=(captured.toList.map a.eval).toArray:=tC;rw[O];exact .clo this.1 this.2
  .simp at hop
 case makeMap t r=>
  unfold oL at hop;split at hop
  .simp only[bI]at hop;obtain⟨rfl,rfl⟩:=hop;exact ns ⟨.map (some w.heap.size),_,_,by simp[Instr.makeMap],.map (SU _ _ _),Cb h⟩
  .simp at hop
 case makeSlice t l c'=>
  unfold oM at hop;split at hop
  .rename_i lv cv j hc;exact ns ((wM (g l cW _ j) (g c' cW _ hc) hop).sim h)
  .simp at hop
 case slice t x lo M mx=>
  unfold oN at hop;split at hop
  .rename_i F l hh C j hi';obtain⟨Z,rfl⟩:=R8 hop;exact Se h (CJ h (g x cW _ C) (wW (fun y A=>g y (by simp[Op.operands]at *;simp[A])) j) (wW (fun y A=>g y (by simp[Op.operands]at *;simp[A])) hi') Z)
  .simp at hop
 case fieldAddr t x f=>
  unfold qA at hop;split at hop
  .rename_i F C;obtain⟨Z,rfl⟩:=R8 hop;exact Se h (Cn (g x cW _ C) Z)
  .simp at hop
 case field t x f=>
  unfold qB at hop;split at hop
  .rename_i F C;obtain⟨Z,rfl⟩:=R8 hop;exact Se h (Co (g x cW _ C) Z)
  .simp at hop
 case indexAddr t x i=>
  unfold qC at hop;split at hop
  .rename_i F iv C M;obtain⟨Z,rfl⟩:=R8 hop;exact Se h (Cp (g x cW _ C) (g i cW _ M) Z)
  .simp at hop
 case index t x i=>
  unfold qD at hop;split at hop
  .rename_i F iv C M;obtain⟨Z,rfl⟩:=R8 hop;exact Se h (Cq (g x cW _ C) (g i cW _ M) Z)
  .simp at hop
 case lookup t m k ok=>
  unfold oO at hop;split at hop
  .rename_i mv kv hm hk;obtain⟨Z,rfl⟩:=R8 hop;exact Se h (CR h (g m cW _ hm) (g k cW _ hk) Z)
  .simp at hop
 case mapUpdate t m k v=>
  unfold qE at hop;split at hop
  .rename_i mv kv vv hm hk J;split at hop
   .rename_i H1 K;simp only[bI]at hop;obtain⟨rfl,rfl⟩:=hop;exact wV (CU h (g m cW _ hm) (g k cW _ hk) (g v cW _ J) K)
   .simp at hop
  .simp at hop
 case extract x i=>
  unfold qF at hop;split at hop
  .rename_i F C;obtain⟨Z,rfl⟩:=R8 hop;exact Se h (Cr (g x cW _ C) Z)
  .simp at hop
theorem CZ(h:R B H w G){keep:Bool}{b:Builtin}{K:Array TypeId}{ty:TypeId}{consts:Array Bool}{cs:List AV}{vs:List Value}{c:AV}(J:bl G cs vs)(z:SI P keep H b K.toList cs=some (c,H')):
 l4 P B H G w (builtin b K ty consts vs.toArray) c H':=by
 unfold SI at z;split at z
 .split at z
  .rename_i t u s x Z;have A:K=#[t,u]:=by apply iA;simpa using Z
   subst A
   match vs,J with
   |[U,F],J=>
    obtain⟨i,g⟩:=J.of_cons;obtain⟨o,_⟩:=g.of_cons;exact ns (CL h i o z)
   |[],J=>have:=J.1;simp at this
   |[_],J=>have:=J.1;simp at this
   |_::_::_::_,J=>have:=J.1;simp at this
  .simp at z
 .split at z
  .rename_i t x Z;have A:K=#[t]:=by apply iA;simpa using Z
   subst A;split at z
   .rename_i v I;simp only[bI]at z;obtain⟨rfl,rfl⟩:=z
    match vs,J with
    |[F],J=>
     obtain⟨i,_⟩:=J.of_cons;exact Se h (CN h i I)
    |[],J=>have:=J.1;simp at this
    |_::_::_,J=>have:=J.1;simp at this
   .simp at z
  .simp at z
 .split at z
  .rename_i x Y;split at z
   .rename_i v V;simp only[bI]at z;obtain⟨rfl,rfl⟩:=z
    match vs,J with
    |[],J=>have:=J.1;simp at this
    |F::xvs,J=>
     obtain⟨i,g⟩:=J.of_cons;have:=tL (P:=P) (w:=w) i g V;exact Se h (by simpa [Builtin.max_]using this)
   .simp at z
  .simp at z
 .split at z
  .rename_i x Y;split at z
   .rename_i v V;simp only[bI]at z;obtain⟨rfl,rfl⟩:=z
    match vs,J with
    |[],J=>have:=J.1;simp at this
    |F::xvs,J=>
     obtain⟨i,g⟩:=J.of_cons;have:=tL (P:=P) (w:=w) i g V;exact Se h (by simpa [Builtin.min_]using this)
   .simp at z
  .simp at z
 .simp at z
end
def tP:AX->Exit
 | .normal=>.normal
 | .exit id=>.exit id
 | .ret=>.ret
def fH(B:Bs)(N U:Nat)(G:Gh)(w:World)(x:AX)(O:ai)(H':Hp):Exit->Act->World->Prop:=fun e m o=>
 e=tP x/\∃L,TR N L O m/\Step B U G w H' o L/\m.defers=[]
structure Fit (P:Program):Prop where
 name:∀(f:FuncId) (fn:Func),P.funcs[f]?=some fn->fn.body.isSome=true->(fn.name == "runtime.NumGoroutine")=false
 mixed:P.follows .mixedOrders=true
structure Snd (P:Program) (B:Bs) (n:Nat) (ih:Task->Res):Prop where
 call:∀f args H r H',ih (.call f args H)=.val r H'->∀G w vs,R B H w G->bl G args vs ->
  (∃fn,P.funcs[f]?=some fn/\fn.body.isSome=true)/\Calls P f vs.toArray w (fun e w'=>∃v G',e=.returned v/\VR G' r v/\Step B H.next G w H' w' G')
 code:∀f N c E H x E' H',ih (.code f N c E H)=.done x E' H'->∀G w a,R B H w G->TR N G E a->a.defers=[]->Code.wp P c (fH B N H.next G w x E' H') a w
 loop:∀f N c E H x E' H',ih (.code f N (.loop c) E H)=.done x E' H'->∀G w a,R B H w G->TR N G E a->a.defers=[]->Code.rounds P c (fH B N H.next G w x E' H') n a w
theorem tQ{P:Program}{c:Code}{Q O:Exit->Act->World->Prop}(h:∀e a w,Q e a w->O e a w):∀{n:Nat}{a:Act}{w:World},Code.rounds P c Q n a w->Code.rounds P c O n a w
 |0,_,_,hr=>hr
 |n+1,_,_,hr=>by
  rw[rounds_succ]at *;exact la (fun e a w F=>by
   cases e with
   |normal=>exact tQ h F
   |_=>exact h _ _ _ F) hr
theorem fH.trans{B:Bs}{N U:Nat}{G Z:Gh}{w w':World}{H' Y:Hp}{x:AX}{C:ai}(K:Step B U G w H' w' Z){e:Exit}{a:Act}{L:World}(h:fH B N H'.next Z w' x C Y e a L):fH B N U G w x C Y e a L:=by
 obtain⟨F,O,i,g,o⟩:=h;exact⟨F,O,i,K.trans g,o⟩
def re:=@fH.trans
section
variable {P:Program} {B:Bs} {G:Gh} {H H':Hp} {w:World}
theorem tR{N:Nat}{E:ai}{a:Act}(h:TR N G E a){x:Operand}{c:AV}(V:PS E x=some c):VR G c (a.eval x):=by
 cases x with
 |tmp t=>simp only[PS,au]at V;subst V;exact h.slots t
 |const v=>exact ni V
 |global g=>simp[PS]at V
 |func f=>simp only[PS,au]at V;subst V;exact .clo (vs:=[]) rfl aA
theorem TR.knows{N:Nat}{E:ai}{a:Act}(h:TR N G E a)(xs:Array Operand):l7 G E a xs:=fun _ _ _ hc=>tR h hc
theorem C0{E:ai}{a:Act}{d:Nat}(h:VR G (E.at d) (a.tmps.getD d undef)):(match E.at d with|.bool b=>some b |_=>none)=(match a.tmps[d]? with|some (.bool b)=>some b |_=>none):=by
 rw[eM]at h;cases hd:a.tmps[d]? with
 |none=>
  rw[hd]at h;simp only[Option.getD_none,undef]at h;generalize E.at d=c at h;cases h;rfl
 |some v=>
  rw[hd]at h;simp only[bh]at h;generalize E.at d=c at h;cases h<;>rfl
theorem C1{E:ai}{a:Act}{ops:Array Oper}{j:Nat}(h:∀d,(ops[j]?).bind (·.dst)=some d->VR G (E.at d) (a.tmps.getD d undef)):qG ops.toList E j=yielded ops a.tmps j:=by
 unfold qG yielded;rw[pe];cases hd:(ops[j]?).bind (·.dst)with
 |none=>rfl
 |some d=>exact C0 (h d hd)
theorem wX{E:ai}{a:Act}{ops:Array Oper}{o:Oper}(h:∀j b d,o.guard=some (j,b)->(ops[j]?).bind (·.dst)=some d->VR G (E.at d) (a.tmps.getD d undef)):RL ops.toList E o=Region.wanted o (yielded ops a.tmps):=by
 unfold RL Region.wanted;cases A:o.guard with
 |none=>rfl
 |some p=>
  obtain⟨j,b⟩:=p;simp only[];rw[C1 (fun d hd=>h j b d A hd)];cases yielded ops a.tmps j with
  |none=>rfl
  |some K=>cases b<;>cases K <;>rfl
theorem rg(fit:Fit P){n:Nat}{ih:Task->Res}(hih:Snd P B n ih){f:FuncId}{E:ai}{a:Act}{o:Oper}{c:AV}(h:R B H w G)(i:l7 G E a o.op.operands)(hop:QU P B.cfg ih f E H o.op=.val c H')
 {K:Act->World->Prop}{Q:Exit->Act->World->Prop} (hK:∀v O J,VR J c v->Step B H.next G w H' O J->K (a.put o.dst v) O):o.wp P a w K Q:=by
 have Z:∀s:Sem Next,l4 P B H G w s c H'->execOp a.eval o=s->o.wp P a w K Q:=fun s hs he=>by
  obtain⟨m,O,J,v,h1,h2,h3,h4⟩:=hs;unfold Oper.wp;rw[he,h1];rcases h2 with rfl|⟨rfl,rfl⟩
  .exact hK v O J h3 h4
  .exact hK undef O J h3 h4
 unfold QU at hop;split at hop
 .rename_i F M;unfold kP at hop;split at hop
  .rename_i g j;split at hop
   .rename_i k cap vs hgv I;have V:l7 G E a F.operands:=by rw[M]at i;exact i
    have hgr:=V g (by simp[Call.operands,j]) _ hgv;have Y:=rb (G:=G) (a:=a) (fun x hx=>V x (by simp[Call.operands,j];exact .inr (by simpa using hx))) I;generalize hge:a.eval g=gv at hgr;cases hgr with
    |clo hl hv=>
     rename_i C;have hall:=Y.append (G:=G) ⟨hl,hv⟩;obtain⟨⟨fn,hfn,A⟩,L⟩:=hih.call _ _ _ _ _ hop G w _ h hall;have z:=fit.name _ _ hfn A;unfold Oper.wp;have hrun:(execOp a.eval o).run P w=.ok (.enter k ((F.args.toList.map a.eval)++C).toArray) w:=by
      have U:F.args.map a.eval=(F.args.toList.map a.eval).toArray:=tC;unfold execOp;rw[M];simp only[cR,resolve,j,hge,Deferred.ofValue,fp,cV,invoke,callFunc,run_program,hfn,z];simp only[b9,cC];have hb:fn.body.isNone=false:=by cases hb:fn.body<;>simp_all
      rw[hb];simp[U]
     rw[hrun];show Calls P k _ w _;refine L.mono fun e O hr=>?_;obtain⟨v,J,rfl,h1,h2⟩:=hr;exact hK v O J h1 h2
   .simp at hop
  .rename_i b j;split at hop
   .rename_i vs I;split at hop
    .rename_i v H1 hb;simp only[Res.val.injEq]at hop;obtain⟨rfl,rfl⟩:=hop;have V:l7 G E a F.operands:=by rw[M]at i;exact i
     have Y:=rb (G:=G) (a:=a) (fun x hx=>V x (by simp[Call.operands,j];simpa using hx)) I;have hs:=CZ (ty:=o.type) (consts:=F.args.map fun|.const _=>true |_=>false) h Y hb;refine Z _ hs ?_;have U:F.args.map a.eval=(F.args.toList.map a.eval).toArray:=tC;unfold execOp;rw[M];simp only[resolve,j,U];rfl
    .simp at hop
   .simp at hop
  .simp at hop
 .rename_i op hne;unfold Rn at hop;split at hop
  .rename_i v H1 ho;simp only[Res.val.injEq]at hop;obtain⟨rfl,rfl⟩:=hop;exact Z _ (CY h i ho) rfl
  .simp at hop
theorem tS(fit:Fit P){n:Nat}{ih:Task->Res}(z:Snd P B n ih){f N:Nat}{ops:Array Oper}:∀(l:List Oper) {E E':ai}{H:Hp}{x:AX}{a:Act}{w:World}{G:Gh}{Q:Exit->Act->World->Prop},jq P B.cfg ih f N ops.toList l E H=.done x E' H' ->
 R B H w G->TR N G E a->a.defers=[]->(∀e m V,fH B N H.next G w x E' H' e m V->Q e m V)->wpList P ops Q l a w
 |[],E,E',H,x,a,w,G,Q,hr,h,ht,hd,hQ=>by
  simp only[jq,Res.done.injEq]at hr;obtain⟨rfl,rfl,rfl⟩:=hr;exact hQ _ _ _ ⟨rfl,G,ht,fU h,hd⟩
 |o::l,E,E',H,x,a,w,G,Q,hr,h,ht,hd,hQ=>by
  have K:∀E H,(List.rec (motive:=fun _=>ai->Hp->Res) (fun E H=>.done .normal E H)
   (fun o _ M E H=>match RL ops.toList E o with
     |true=>match QU P B.cfg ih f E H o.op with
      | .val v H=>RX M H (Q9 N E o.dst v)
      |_=>.fail
     |false=>RX M H (Q9 N E o.dst QQ)) l E H:Res)=jq P B.cfg ih f N ops.toList l E H:=fun _ _=>rfl
  have U:jq P B.cfg ih f N ops.toList (o::l) E H=match RL ops.toList E o with
   |true=>match QU P B.cfg ih f E H o.op with
    | .val v H=>RX (jq P B.cfg ih f N ops.toList l) H (Q9 N E o.dst v)
    |_=>.fail
   |false=>RX (jq P B.cfg ih f N ops.toList l) H (Q9 N E o.dst QQ):=rfl
  rw[U]at hr;have L:=wX (G:=G) (E:=E) (a:=a) (ops:=ops) (o:=o) (fun _ _ d _ _=>ht.slots d);have Z:∀Y v,(a.put Y v).defers=[]:=fun Y v=>by cases Y<;>exact hd
  cases g:RL ops.toList E o with
  |true=>
   rw[g]at hr L;simp only[]at hr;split at hr
   .rename_i v H1 hop;cases hp:Q9 N E o.dst v with
    |none=>rw[hp]at hr;simp[RX]at hr
    |some E1=>
     rw[hp]at hr;simp only[RX]at hr;unfold wpList;rw[az L.symm];refine .inl (rg fit z h (ht.knows _) hop fun A V J F I=>?_);have O:TR N J E1 (a.put o.dst A):=(ht.mono I.ext).put F hp;exact tS fit z l hr I.r O (Z _ _) (fun e a w C=>hQ _ _ _ (re I C))
   .simp at hr
  |false=>
   rw[g]at hr L;simp only[]at hr;cases hp:Q9 N E o.dst QQ with
   |none=>rw[hp]at hr;simp[RX]at hr
   |some E1=>
    rw[hp]at hr;simp only[RX]at hr;unfold wpList;rw[af (by rw[<-L];simp)];exact tS fit z l hr h (ht.put (oY G) hp) (Z _ _) hQ
end
section
variable {P:Program} {B:Bs} {G:Gh} {H H':Hp} {w:World} {cfg:Cfg}
theorem Sx.beq_eq:∀{a b:Sx},Sx.beq a b=true->a=b
 | .var i,b,h=>by
   cases b<;>simp only[Sx.beq,b9]at h;rw[eY h]
 | .lit i,b,h=>by
   cases b<;>simp only[Sx.beq,b9,iC]at h;rw[h]
 | .bin o k x y,b,h=>by
   cases b<;>simp only[Sx.beq,b9,dn,i4]at h;obtain⟨⟨⟨rfl,rfl⟩,Z⟩,g⟩:=h;rw[Sx.beq_eq Z,Sx.beq_eq g]
 | .conv k x,b,h=>by
   cases b<;>simp only[Sx.beq,b9,dn,i4]at h;obtain⟨rfl,Z⟩:=h;rw[Sx.beq_eq Z]
mutual
theorem AV.beq_eq:∀{a b:AV},AV.beq a b=true->a=b
 | .int k a,b,h=>by
   cases b<;>simp only[AV.beq,dn,i4,iC,b9]at h;obtain⟨rfl,rfl⟩:=h;rfl
 | .sx k a,b,h=>by
   cases b<;>simp only[AV.beq,dn,i4,b9]at h;obtain⟨rfl,i⟩:=h;rw[Sx.beq_eq i]
 | .bool a,b,h=>by
   cases b<;>simp only[AV.beq,iC,b9]at h;subst h;rfl
 | .str a,b,h=>by
   cases b<;>simp only[AV.beq,iC,b9]at h;subst h;rfl
 | .nilP,b,h=>by cases b<;>simp only[AV.beq,b9]at h;rfl
 | .nilM,b,h=>by cases b<;>simp only[AV.beq,b9]at h;rfl
 | .nilF,b,h=>by cases b<;>simp only[AV.beq,b9]at h;rfl
 | .nilS,b,h=>by cases b<;>simp only[AV.beq,b9]at h;rfl
 | .ptr r o,b,h=>by
   cases b<;>simp only[AV.beq,dn,b9]at h;obtain⟨i,g⟩:=h;rw[eY i,eY g]
 | .iptr a,b,h=>by
   cases b<;>simp only[AV.beq,b9]at h;rw[SE h]
 | .sl r o l z,b,h=>by
   cases b<;>simp only[AV.beq,dn,b9]at h;obtain⟨⟨⟨i,g⟩,Z⟩,U⟩:=h;rw[eY i,eY g,eY Z,eY U]
 | .lst a,b,h=>by
   cases b<;>simp only[AV.beq,b9]at h;rw[wY h]
 | .map r,b,h=>by
   cases b<;>simp only[AV.beq,b9]at h;rw[eY h]
 | .clo f a,b,h=>by
   cases b<;>simp only[AV.beq,dn,b9]at h;rw[eY h.1,SE h.2]
 | .agg a,b,h=>by
   cases b<;>simp only[AV.beq,b9]at h;rw[SE h]
 | .tup a,b,h=>by
   cases b<;>simp only[AV.beq,b9]at h;rw[SE h]
theorem SE:∀{a b:List AV},Sb a b=true->a=b
 |[],b,h=>by cases b<;>simp only[Sb,b9]at h;rfl
 |a::x,b,h=>by
  cases b<;>simp only[Sb,dn,b9]at h;rw[AV.beq_eq h.1,SE h.2]
theorem wY:∀{a b:List (List AV)},lT a b=true->a=b
 |[],b,h=>by cases b<;>simp only[lT,b9]at h;rfl
 |a::x,b,h=>by
  cases b<;>simp only[lT,dn,b9]at h;rw[SE h.1,wY h.2]
end
theorem wZ{O β:Type}:∀{a b:List (O×β)},a.map (·.1)=b.map (·.1)->a.map (·.2)=b.map (·.2)->a=b
 |[],b,h,_=>by cases b<;>simp at h;rfl
 |(x,y)::a,b,h,j=>by
  cases b with
  |nil=>simp at h
  |cons c b=>
   obtain⟨u,v⟩:=c;simp only[dS,dz]at h j;obtain⟨rfl,h⟩:=h;obtain⟨rfl,j⟩:=j;rw[wZ h j]
theorem HB.beq_eq{a b:HB}(h:HB.beq a b=true):a=b:=by
 cases a<;>cases b<;>simp only[HB.beq,dn,b9,iC]at h
 .obtain⟨⟨i,g⟩,o⟩:=h;rw[SE i,eY g,o]
 .rw[wZ (SE h.1) (SE h.2)]
def hP(P:Program)(cfg:Cfg)(ih:Task->Res)(f N:Nat)(U:List Oper):List Rec->List Oper->ai->Hp->ai->Hp->Prop
 |[],[],E,H,E',H'=>E=E'/\H=H'
 |r::rs,o::l,E,H,E',H'=>r.o=o/\r.E=E/\r.H=H/\RL U E o=r.did/\(r.did=true->QU P cfg ih f E H o.op=.val r.val r.H')/\(r.did=false->r.val=QQ/\r.H'=H) /\
  ∃E1,Q9 N E o.dst r.val=some E1/\hP P cfg ih f N U rs l E1 r.H' E' H'
 |_,_,_,_,_,_=>False
theorem pi{ih:Task->Res}{f N:Nat}{U:List Oper}:∀{l:List Oper}{E E':ai}{H H':Hp}{rs:List Rec},eJ P cfg ih f N U l E H=.done E' H' rs->hP P cfg ih f N U rs l E H E' H'
 |[],E,E',H,H',rs,h=>by
  simp only[eJ,ResD.done.injEq]at h;obtain⟨rfl,rfl,rfl⟩:=h;exact⟨rfl,rfl⟩
 |o::l,E,E',H,H',rs,h=>by
  simp only[eJ]at h;cases L:RL U E o with
  |true=>
   rw[L]at h;simp only[]at h;cases hop:QU P cfg ih f E H o.op with
   |val v H1=>
    rw[hop]at h;simp only[]at h;cases hp:Q9 N E o.dst v with
    |none=>rw[hp]at h;simp[Sy,ip]at h
    |some E1=>
     rw[hp]at h;simp only[Sy]at h;cases hr:eJ P cfg ih f N U l E1 H1 with
     |fail=>rw[hr]at h;simp[ip]at h
     |done M m i=>
      rw[hr]at h;simp only[ip,ResD.done.injEq]at h;obtain⟨rfl,rfl,rfl⟩:=h;exact⟨rfl,rfl,rfl,L,fun _=>hop,aA,E1,hp,pi hr⟩
   |done _ _ _=>rw[hop]at h;simp at h
   |fail=>rw[hop]at h;simp at h
  |false=>
   rw[L]at h;simp only[]at h;cases hp:Q9 N E o.dst QQ with
   |none=>rw[hp]at h;simp[Sy,ip]at h
   |some E1=>
    rw[hp]at h;simp only[Sy]at h;cases hr:eJ P cfg ih f N U l E1 H with
    |fail=>rw[hr]at h;simp[ip]at h
    |done M m i=>
     rw[hr]at h;simp only[ip,ResD.done.injEq]at h;obtain⟨rfl,rfl,rfl⟩:=h;exact⟨rfl,rfl,rfl,L,aA,fun _=>⟨rfl,rfl⟩,E1,hp,pi hr⟩
def Rm(rs:List Rec)(O:ai)(e:Nat):ai:=match rs[e]? with
 |some r=>r.E
 |none=>O
theorem tT{ih:Task->Res}{f N:Nat}{U:List Oper}:∀{rs:List Rec}{l:List Oper}{E E':ai}{H H':Hp},hP P cfg ih f N U rs l E H E' H'->rs.length=l.length
 |[],[],_,_,_,_,_=>rfl
 |[],_::_,_,_,_,_,h=>by simp[hP]at h
 |_::_,[],_,_,_,_,h=>by simp[hP]at h
 |r::rs,o::l,E,E',H,H',h=>by
  obtain⟨_,_,_,_,_,_,E1,_,h⟩:=h;simp[tT h]
theorem tU{ih:Task->Res}{f N:Nat}{U:List Oper}{rs:List Rec}{l:List Oper}{E O:ai}{H H':Hp}(h:hP P cfg ih f N U rs l E H O H'):Rm rs O 0=E/\Ql rs H' 0=H:=by
 cases rs with
 |nil=>
  cases l with
  |nil=>obtain⟨rfl,rfl⟩:=h;exact⟨rfl,rfl⟩
  |cons o l=>simp[hP]at h
 |cons r rs=>
  cases l with
  |nil=>simp[hP]at h
  |cons o l=>
   obtain⟨_,i,g,_⟩:=h;exact⟨by simp[Rm,i],by simp[Ql,g]⟩
structure AtD (P:Program) (cfg:Cfg) (ih:Task->Res) (f N:Nat) (all:List Oper) (o:Oper) (r:Rec) (E E1:ai) (H H1:Hp):Prop where
 eo:r.o=o
 eE:r.E=E
 eH:r.H=H
 want:RL all E o=r.did
 yes:r.did=true->QU P cfg ih f E H o.op=.val r.val H1
 no:r.did=false->r.val=QQ/\H1=H
 put:Q9 N E o.dst r.val=some E1
 eH':r.H'=H1
theorem l8{ih:Task->Res}{f N:Nat}{U:List Oper}:∀{rs:List Rec}{l:List Oper}{E E':ai}{H H':Hp},hP P cfg ih f N U rs l E H E' H'->∀{i:Nat}{r:Rec},rs[i]?=some r ->
 ∃o,l[i]?=some o/\AtD P cfg ih f N U o r (Rm rs E' i) (Rm rs E' (i+1)) (Ql rs H' i) (Ql rs H' (i+1))
 |[],_,_,_,_,_,_,i,r,hr=>by simp at hr
 |r::rs,[],_,_,_,_,h,_,_,_=>by simp[hP]at h
 |r::rs,o::l,E,E',H,H',h,i,r',hr=>by
  obtain⟨M,g,Y,L,A,V,E1,J,O⟩:=h;obtain⟨K,I⟩:=tU O;cases i with
  |zero=>
   simp at hr;subst hr;have Z:Rm (r::rs) E' 1=E1:=by rw[<-K];simp[Rm]
   have z:Ql (r::rs) H' 1=r.H':=by rw[<-I];simp[Ql]
   have e3:Rm (r::rs) E' 0=E:=by simp[Rm,g]
   have e4:Ql (r::rs) H' 0=H:=by simp[Ql,Y]
   refine⟨o,rfl,?_⟩;rw[Z,z,e3,e4];exact⟨M,g,Y,L,A,fun m=>⟨(V m).1,(V m).2⟩,J,rfl⟩
  |succ i=>
   obtain⟨F,C,j⟩:=l8 O (i:=i) (r:=r') (by simpa using hr);have Z:∀k,Rm (r::rs) E' (k+1)=Rm rs E' k:=fun k=>by simp[Rm]
   have z:∀k,Ql (r::rs) H' (k+1)=Ql rs H' k:=fun k=>by simp[Ql]
   refine⟨F,oV,?_⟩;rw[Z,Z,z,z];exact j
def kj(op:Op):Bool:=match Ro op with|.calm=>true |_=>false
def jx(op:Op):Bool:=match Ro op with|.read=>true |_=>false
theorem C2{D:BinOp->Sx->Sx->Option Bool}{E:ai}{op:Op}(j:kj op=true):∃u,∀X,bP P D E X op=ret X u:=by
 cases op<;>simp only[kj,Ro,b9]at j<;>simp only[bP]
 case move x=>exact⟨_,fun X=>rfl⟩
 case assign x=>exact⟨_,fun X=>rfl⟩
 case pick c a b=>
  unfold qt;cases PS E c with
  |none=>exact⟨none,fun X=>rfl⟩
  |some v=>cases v with
   |bool t=>cases t<;>exact⟨_,fun X=>rfl⟩
   |_=>exact⟨none,fun X=>rfl⟩
 case build t parts=>
  unfold qu;cases R1 E parts.toList with
  |none=>exact⟨none,fun X=>rfl⟩
  |some L=>exact⟨_,fun X=>rfl⟩
 case nilCheck x=>
  unfold qw;cases PS E x with
  |none=>exact⟨none,fun X=>rfl⟩
  |some v=>cases v with
   |ptr r o=>exact⟨some (.ptr r o),fun X=>rfl⟩
   |iptr M=>exact⟨some (.iptr M),fun X=>rfl⟩
   |_=>exact⟨none,fun X=>rfl⟩
 case binOp op t x y yt=>
  unfold qx;cases PS E x with
  |none=>exact⟨none,fun X=>rfl⟩
  |some v=>cases PS E y with
   |none=>exact⟨none,fun X=>rfl⟩
   |some u=>exact⟨_,fun X=>rfl⟩
 case unOp op t x=>
  unfold qy;cases PS E x with
  |none=>exact⟨none,fun X=>rfl⟩
  |some v=>exact⟨_,fun X=>rfl⟩
 case makeFunc fn first captured=>
  unfold qz;cases fn with
  |func f=>
   cases first.toList with
   |nil=>cases Rt E captured.toList with
    |none=>exact⟨none,fun X=>rfl⟩
    |some vs=>exact⟨some (.clo f vs),fun X=>rfl⟩
   |cons _ _=>exact⟨none,fun X=>rfl⟩
  |_=>exact⟨none,fun X=>rfl⟩
 case fieldAddr t x f=>
  unfold qA;cases PS E x with
  |none=>exact⟨none,fun X=>rfl⟩
  |some v=>exact⟨_,fun X=>rfl⟩
 case field t x f=>
  unfold qB;cases PS E x with
  |none=>exact⟨none,fun X=>rfl⟩
  |some v=>exact⟨_,fun X=>rfl⟩
 case indexAddr t x i=>
  unfold qC;cases PS E x with
  |none=>exact⟨none,fun X=>rfl⟩
  |some v=>cases PS E i with
   |none=>exact⟨none,fun X=>rfl⟩
   |some u=>exact⟨_,fun X=>rfl⟩
 case index t x i=>
  unfold qD;cases PS E x with
  |none=>exact⟨none,fun X=>rfl⟩
  |some v=>cases PS E i with
   |none=>exact⟨none,fun X=>rfl⟩
   |some u=>exact⟨_,fun X=>rfl⟩
 case extract x i=>
  unfold qF;cases PS E x with
  |none=>exact⟨none,fun X=>rfl⟩
  |some v=>exact⟨_,fun X=>rfl⟩
 all_goals exact⟨none,fun X=>rfl⟩
theorem tV{D:BinOp->Sx->Sx->Option Bool}{E:ai}{op:Op}{v:AV}(Z:kj op=true)(h:bP P D E H op=some (v,H')):H'=H/\∀X,bP P D E X op=some (v,X):=by
 obtain⟨u,j⟩:=C2 (P:=P) (D:=D) (E:=E) Z;rw[j]at h;obtain⟨rfl,rfl⟩:=R8 h;exact⟨rfl,fun X=>by rw[j];rfl⟩
theorem tW{ih:Task->Res}{f:FuncId}{E:ai}{op:Op}{v:AV}(j:jx op=true)(h:QU P cfg ih f E H op=.val v H'):H'=H:=by
 cases op<;>simp only[jx,Ro,b9]at j<;>simp only[QU,bP]at h
 case load t x=>
  unfold oJ at h;split at h
  .cases C:Ru P H t ‹AV› <;>rw[C]at h<;>simp[ret,Rn]at h;exact h.2.symm
  .simp[Rn]at h
 case slice t x lo hi mx=>
  unfold oN at h;split at h
  .rename_i F lv J _ _ _;cases C:jB P H t F lv J<;>rw[C]at h<;>simp[ret,Rn]at h;exact h.2.symm
  .simp[Rn]at h
 case convert s d x=>
  unfold oK at h;split at h
  .cases C:RU P H s d ‹AV› <;>rw[C]at h<;>simp[ret,Rn]at h;exact h.2.symm
  .simp[Rn]at h
 case lookup t m k ok=>
  unfold oO at h;split at h
  .rename_i mv M _ _;cases C:R2 P H t mv M ok<;>rw[C]at h<;>simp[ret,Rn]at h;exact h.2.symm
  .simp[Rn]at h
 case call c=>
  unfold kP at h;cases hc:c.callee with
  |value g=>rw[hc]at j;simp at j
  |invoke g m=>rw[hc]at j;simp at j
  |builtin b=>
   rw[hc]at j h;simp only[]at h;split at h
   .rename_i vs _;cases b<;>simp only[b9]at j<;>simp only[SI]at h;all_goals
     split at h
     .rename_i Z H1 z;simp only[Res.val.injEq]at h;obtain⟨rfl,rfl⟩:=h;split at z
      .split at z
       .simp only[bI]at z;exact z.2.symm
       .simp at z
      .simp at z
     .simp at h
   .simp at h
theorem C3{D:BinOp->Sx->Sx->Option Bool}{E:ai}{o:Oper}{v:AV}(j:kR o=true)(h:bP P D E H o.op=some (v,H')):∃z,H'=H.alloc z:=by
 obtain⟨Z,C,K,L,M,guard⟩:=o;simp only[]at h;cases C<;>simp only[kR,Ro,b9]at j<;>simp only[bP,reduceCtorEq]at h
 case alloc t=>
  unfold oG at h;split at h
  .simp only[bI]at h;exact⟨_,h.2.symm⟩
  .simp at h
 case box t x=>
  unfold oH at h;split at h
  .simp only[bI]at h;exact⟨_,h.2.symm⟩
  .simp at h
 case buildSlice t len parts=>
  unfold S8 at h;split at h
  .unfold Rs at h;(repeat' split at h)<;>first|(simp only[bI]at h;exact⟨_,h.2.symm⟩)|simp at h
  .simp at h
 case makeMap t r=>
  unfold oL at h;split at h
  .simp only[bI]at h;exact⟨_,h.2.symm⟩
  .simp at h
 case makeSlice t l c=>
  unfold oM at h;split at h
  .unfold RK at h;(repeat' split at h)<;>first|(simp only[bI]at h;exact⟨_,h.2.symm⟩)|simp at h
  .simp at h
theorem l9{ih:Task->Res}{f:FuncId}{E:ai}{op:Op}{v:AV}(m:∀c,op≠.call c):QU P cfg ih f E H op=.val v H'↔bP P cfg.dec E H op=some (v,H'):=by
 have:QU P cfg ih f E H op=Rn (bP P cfg.dec E H op):=by
  unfold QU;split
  .exact(m _ rfl).elim
  .rfl
 rw[this];cases bP P cfg.dec E H op with
 |none=>simp[Rn]
 |some p=>obtain⟨a,b⟩:=p;simp[Rn]
theorem C4{ih:Task->Res}{f:FuncId}{E:ai}{o:Oper}{v:AV}(j:gG o=false)(h:QU P cfg ih f E H o.op=.val v H'):H'=H\/∃Z,H'=H.alloc Z:=by
 cases z:Ro o.op with
 |act=>simp[gG,z]at j
 |read=>exact .inl (tW (by simp[jx,z]) h)
 |calm=>
  have m:∀c,o.op≠.call c:=fun c e=>by
   rw[e]at z;simp only[Ro]at z;split at z<;>simp at z
  exact .inl (tV (P:=P) (by simp[kj,z]) ((l9 m).1 h)).1
 |make=>
  have m:∀c,o.op≠.call c:=fun c e=>by
   rw[e]at z;simp only[Ro]at z;split at z<;>simp at z
  exact .inr (C3 (by simp[kR,z]) ((l9 m).1 h))
end
end Go.Ab
