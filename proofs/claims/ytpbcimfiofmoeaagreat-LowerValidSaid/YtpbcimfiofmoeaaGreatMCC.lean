/- Parts: AbOps3, AbOps4, AbOps5, AbOps6, AbOp, AbRun, AbDraw1. -/
import Derived.Laws.Tables
import Derived.Lib.Strings
import Derived.Test.YtpbcimfiofmoeaaGreatMCB
set_option linter.unusedSimpArgs false
set_option linter.unusedVariables false
set_option linter.unusedSectionVars false
set_option linter.defProp false
set_option maxHeartbeats 32000000
namespace Go.Ab
set_option maxRecDepth 20000
open Go
theorem Fs{P:Prop}(h:P:=by rw[<- Nat.add_mul];congr 1;omega):P:=h
theorem yS{P:Prop}(h:P:=by simpa using m):P:=h
theorem BP{P:Prop}(h:P:=by simpa using o):P:=h
theorem wT{P:Prop}(h:P:=by simpa using V):P:=h
theorem wU{P:Prop}(h:P:=by simpa using I):P:=h
theorem BQ{P:Prop}(h:P:=by simp[Builtin.lenOf]):P:=h
theorem yT{P:Prop}(h:P:=by rw[List.length_take];omega):P:=h
theorem yU{P:Prop}(h:P:=by simp[Builtin.len_,zmA hd,goInt]):P:=h
theorem fG{P:Prop}(h:P:=by simp[Op.operands]):P:=h
theorem Ft{P:Prop}(h:P:=by simp only[Op.operands,List.mem_toArray,List.mem_map];exact⟨p,hp,rfl⟩):P:=h
theorem Fv{P:Prop}(h:P:=by apply Array.ext';simp):P:=h
def oG:=@Nat.sub_self
def oH:=@Option.map_some
def jm:=@congrArg
def dm:=@Nat.zero_le
def pL:=@Nat.add_mul
def Fw:=@List.zipIdx_cons
def Kq:=@Array.toList_setIfInBounds
def oI:=@List.take_add_one
def Fx:=@Decidable.byContradiction
def sG:=@Nat.add_zero
def wV:=@Array.toArray_toList
def tZ:=@Nat.succ_mul
def Fy:=@Array.toList_map
def eS:=@List.getElem?_map
def Fz:=@List.getElem?_range
def bj:=@List.append_nil
def wW:=@Nat.mul_le_mul_right
def FA:=@List.take_append_drop
def wX:=@Nat.min_eq_left
def yV:=@Go.IntWalk.i64_in
def mW:=@List.flatten_cons
def vm:=@Nat.zero_mul
def FB:=@Go.run_firstCells_some
def j7:=@List.mem_of_getElem?
def fH:=@List.drop_zero
def BR:=@Nat.sub_zero
def yW:=@List.take_length
def co:=@Bool.and_eq_true
def yX:=@Nat.le_of_ble_eq_true
def dE:=@Bool.false_eq_true
def BS:=@List.drop_append_of_le_length
def jJ:=@decide_eq_true_eq
def bI:=@Option.getD_some
def oJ:=@List.getElem?_set
def yY:=@Array.getElem?_toList
def ea:=@List.cons.injEq
def lV:=@Nat.mul_one
def t9:=@Go.Code.wp_mono
def dM:=@List.map_cons
def lW:=And.intro @co @jJ
def pM:=And.intro @oH.{0,0} @aL.{0}
end Go.Ab
namespace Go.Ab
set_option maxRecDepth 20000
open Go Go.RowKit
def vn(G:Gh):Option AV->Option Value->Prop
 |none,none=>True
 |some c,some v=>VR G c v
 |_,_=>False
section
variable {P:Program} {B:Bs} {G:Gh} {H H':Hp} {w:World}
theorem BT{c:AV}{v:Value}{k y:Nat}(code:BoundsCode)(h:VR G c v)(C:znd 0 (some c)=some k)(o:k<=y):(Instr.sliceBound v y code).run P w=.ok k w:=by
 unfold znd at C;split at C
 .simp at *
 .rename_i j n e;simp only[aL]at C e;subst C;subst e;cases h;simp[Instr.sliceBound,asIntOf,o]
 .simp at C
theorem UI{d k:Nat}{c:AV}(h:znd d (some c)=some k):znd 0 (some c)=some k:=by
 unfold znd at *;split at h<;>simp_all
theorem FC{lo I:Option AV}{J K:Option Value}{l h len cap:Nat}(M:vn G lo J)(V:vn G I K)(Z:znd 0 lo=some l)(O:znd len I=some h)(h1:l<=h)(h2:h<=len)(z:len<=cap)(U:Bool):
 (Instr.sliceBounds U len cap J K none).run P w=.ok (l,h,cap) w:=by
 cases I with
 |none=>
  cases K with
  |some v=>exact V.elim
  |none=>
   simp only[znd,aL]at O;subst O;cases lo with
   |none=>
    cases J with
    |some v=>exact M.elim
    |none=>
     simp only[znd,aL]at Z;subst Z;simp[Instr.sliceBounds]
   |some c=>
    cases J with
    |none=>exact M.elim
    |some v=>simp[Instr.sliceBounds,BT _ M Z h1]
 |some j=>
  cases K with
  |none=>exact V.elim
  |some m=>
   have Y:=UI O;cases lo with
   |none=>
    cases J with
    |some v=>exact M.elim
    |none=>
     simp only[znd,aL]at Z;subst Z;simp[Instr.sliceBounds,BT _ V Y (show h<=cap by omega)]
   |some c=>
    cases J with
    |none=>exact M.elim
    |some v=>simp[Instr.sliceBounds,BT _ M Z h1,BT _ V Y (show h<=cap by omega)]
theorem UJ{t:TypeId}{x c:AV}{xv:Value}{lo I:Option AV}{lov hiv:Option Value}(hx:VR G x xv)(hl:vn G lo lov)(hh:vn G I hiv)(h:jT P t x lo I=some c):
 ∃v,(Instr.sliceAt t xv lov hiv none).run P w=.ok v w/\VR G c v:=by
 unfold jT at h;split at h
 .rename_i s hd;split at h
  .rename_i l hh' M O;split at h
   .rename_i hc;simp only[aL]at h;subst h;cases hx with
    |str sv _ hs=>
     subst hs;have hb:=FC (P:=P) (w:=w) (cap:=sv.size) hl hh M O hc.1 hc.2 (by show sv.data.toList.length<=sv.data.size;simp) false;have hsz:sv.data.toList.length=sv.size:=by show sv.data.toList.length=sv.data.size;simp
     rw[hsz]at hb;refine⟨.string (sv.extract l hh'),?_,.str _ _ (Lib.extract_data _ _ _)⟩;simp only[Instr.sliceAt,fA,zmA hd,fF,Instr.slice];simp[hb]
   .simp at h
  .simp at h
 .rename_i e y hd;split at h
  .rename_i z hz;have K:∀(a:Option Addr) (U cap l Z:Nat),xv=.slice a U cap->znd 0 lo=some l->znd U I=some Z->l<=Z->Z<=U->U<=cap ->
    (Instr.sliceAt t xv lov hiv none).run P w=.ok (.slice (if cap=l then a else a.map (·.add (l*z))) (Z-l) (cap-l)) w:=fun a U cap l Z e1 M O h1 m h3=>by
    subst e1;simp only[Instr.sliceAt,fA,zmA hd,fF,Instr.slice];simp[FC hl hh M O h1 m h3,jU hz]
   split at h
   .rename_i r off U z';split at h
    .rename_i l Z M O;split at h
     .rename_i hc;obtain⟨h1,m,rfl⟩:=hc;cases hx with
      |sl hr hlc hx'=>
       rename_i b o x cap;have:=K _ U cap l Z rfl M O h1 m hlc;split at h
       .rename_i e1;simp only[aL]at h;subst h;subst e1;rw[oG]at this;exact⟨_,this,.lst0 _ _⟩
       .rename_i hne;simp only[aL]at h;subst h;rw[af ac]at this;refine⟨_,this,?_⟩;simp only[oH,oF];rw[iE];refine .sl hr ac ?_;have e3:(cap-l)*z'+l*z'=cap*z':=Fs;omega
     .simp at h
    .simp at h
   .rename_i xs;split at h
    .rename_i l Z M O;split at h
     .rename_i hc;obtain⟨h1,m⟩:=hc;split at h
      .rename_i he;simp only[aL]at h;subst h;have J:Z-l=0:=by
        have:=jm List.length he;simp only[j6,lA,eW]at this;omega
       cases hx with
       |lst vs hzz hF hv V=>
        have:=K _ _ _ l Z rfl M O h1 m V;rw[J]at this;exact⟨_,this,.lst0 _ _⟩
       |lst0 a cap=>
        have:=K _ _ _ l Z rfl M O h1 m (dm cap);rw[J]at this;exact⟨_,this,.lst0 _ _⟩
      .rename_i row rows he;split at h
       .rename_i hrl;simp only[aL]at h;subst h;have hpos:0<Z-l:=by
         have:=jm List.length he;simp only[j6,lA,eK]at this;omega
        cases hx with
        |lst0 a cap=>simp at m;omega
        |lst vs hzz hF hv V=>
         rename_i b o cap z';have C:=K _ _ _ l Z rfl M O h1 m V;rw[af ac]at C;have Y:∀i:Nat,(row::rows)[i]?=if i<Z-l then xs[l+i]? else none:=fun i=>by
          rw[<-he,rD,tX]
         have hz':z'=z:=by
          have:=Y 0;rw[am hpos]at this;rw[<-hzz (l+0) row (by rw[<-this];rfl)];exact hrl
         subst hz';have J:(row::rows).length=Z-l:=by
          rw[<-he];simp only[j6,lA];omega
         refine⟨_,C,?_⟩;simp only[oH,oF];rw[<-J];refine .lst (z:=z') (fun i j=>vs (l+i) j) (fun i rw' I=>?_) (fun i j I hj=>?_) (fun i j rw' d I hj=>?_) (by rw[J];omega)
         .rw[Y i]at I;split at I
          .exact hzz _ _ I
          .simp at I
         .have:=hF (l+i) j (by rw[J]at I;omega) hj;rw[<-this]
          congr 1
          rw[pL];omega
         .rw[Y i]at I;split at I
          .exact hv _ _ _ _ I hj
          .simp at I
       .simp at h
     .simp at h
    .simp at h
   .split at h
    .rename_i M O;simp only[aL]at h;subst h;cases hx;have:=K none 0 0 0 0 rfl M O (aB _) (aB _) (aB _);exact⟨_,this,.nilS⟩
    .simp at h
   .simp at h
  .simp at h
 .simp at h
theorem cm.splice{cs V:List AV}{vs o:List Value}(h:cm G cs vs)(J:cm G V o)(off:Nat):cm G (Ab.splice cs off V) (vs.take off++o++vs.drop (off+o.length)):=by
 unfold Ab.splice;rw[J.1];exact((h.take off).append J).append (h.drop _)
theorem Kr(off:Nat):∀(o:List Value) (k:Nat) (cells:Array Value),off+k+o.length<=cells.size ->
 ((o.zipIdx k).foldl (fun z (c,j)=>z.setIfInBounds (off+j) c) cells).toList=cells.toList.take (off+k)++o++cells.toList.drop (off+k+o.length)
 |[],k,cells,_=>by simp
 |v::o,k,cells,h=>by
  simp only[eK]at h;rw[Fw,List.foldl_cons,Kr off o (k+1) _ b9];simp only[Kq,eK];have hp:off+k<cells.toList.length:=b9;have m:(cells.toList.set (off+k) v).take (off+(k+1))=cells.toList.take (off+k)++[v]:=by
   rw[<-iE,oI,List.take_set_of_le (aB _),List.getElem?_set_self hp];rfl
  rw[m,List.drop_set_of_lt ac,show off+(k+1)+o.length=off+k+(o.length+1) by omega];simp
theorem BU{K:Nat->Option (Nat×Nat)}:∀{ps:List (Nat×AV)}{pv:List (Nat×Value)}{cs out:List AV}{vs:List Value},ps.length=pv.length ->
 (∀(i:Nat) p q,ps[i]?=some p->pv[i]?=some q->p.1=q.1/\VR G p.2 q.2)->cm G cs vs->rB K cs ps=some out ->
 ∃V,Instr.fill K vs.toArray pv=some V.toArray/\cm G out V
 |[],[],cs,out,vs,_,_,hv,h=>by
  simp only[rB,aL]at h;subst h;exact⟨vs,rfl,hv⟩
 |[],q::pv,_,_,_,hl,_,_,_=>by simp at hl
 |p::ps,[],_,_,_,hl,_,_,_=>by simp at hl
 |(i,c)::ps,(i',v)::pv,cs,out,vs,hl,hp,hv,h=>by
  obtain⟨rfl,o⟩:=hp 0 (i,c) (i',v) rfl rfl;simp only[]at o;simp only[rB]at h;split at h
  .simp at h
  .rename_i U M O;split at h
   .simp at h
   .rename_i Z;have Y:=o.cells;have J:v.cells.size=c.cells.length:=by rw[Y.1];simp
    have I:v.cells.size=M/\U+v.cells.size<=vs.length:=by
     rw[J,<-hv.1];constructor
     .apply Fx;intro C;exact Z (.inl C)
     .apply Fx;intro C;exact Z (.inr ac)
    obtain⟨V,h1,h2⟩:=BU (ps:=ps) (pv:=pv) (cs:=Ab.splice cs U c.cells) (out:=out) (vs:=vs.take U++v.cells.toList++vs.drop (U+v.cells.toList.length))
     (by simpa using hl) (fun j p q m hq=>hp (j+1) p q yS (by simpa using hq)) (hv.splice Y U) h
    refine⟨V,?_,h2⟩;simp only[Instr.fill,O];rw[af b9];rw[<-h1]
    congr 1
    apply pJ;have z:=Kr U v.cells.toList 0 vs.toArray b9;simp only[sG]at z;rw[List.toList_toArray,<-z];rw[<-Array.foldl_toList,Array.toList_zipIdx]
theorem BV{E:aw}{a:Act}:∀{ps:List (Nat×Operand)}{out:List (Nat×AV)},(∀p∈ps,∀c,zk4 E p.2=some c->VR G c (a.eval p.2))->lT E ps=some out ->
 out.length=(ps.map fun x=>(x.1,a.eval x.2)).length/\∀(i:Nat) p q,out[i]?=some p->(ps.map fun x=>(x.1,a.eval x.2))[i]?=some q->p.1=q.1/\VR G p.2 q.2
 |[],out,_,h=>by
  simp only[lT,aL]at h;subst h;exact⟨rfl,ax⟩
 |(i,x)::ps,out,hE,h=>by
  simp only[lT]at h;split at h
  .rename_i v vs Z U;simp only[aL]at h;subst h;obtain⟨m,Y⟩:=BV (ps:=ps) (out:=vs) (fun p hp=>hE p (by simp[hp])) U;refine⟨yS,fun j p q o V=>?_⟩;cases j with
   |zero=>
    simp at o V;subst o V;exact⟨rfl,hE (i,x) ax v Z⟩
   |succ j=>exact Y j p q BP wT
  .simp at h
theorem UK{t:TypeId}{ps:List (Nat×AV)}{pv:List (Nat×Value)}{c:AV}(hl:ps.length=pv.length)(hp:∀(i:Nat) p q,ps[i]?=some p->pv[i]?=some q->p.1=q.1/\VR G p.2 q.2)(h:zma P t ps=some c):
 ∃v,(Instr.build t pv.toArray).run P w=.ok v w/\VR G c v:=by
 unfold zma at h;split at h
 .rename_i z C J hd;split at h
  .rename_i K Y;split at h
   .rename_i I hf;simp only[aL]at h;subst h;obtain⟨it,zv,zc,M,m,O,rfl⟩:=Fm J;have o:=(wQ (G:=G) O).cells;obtain⟨V,Z,j⟩:=BU hl hp o hf;refine⟨.agg V.toArray,run_build w t _ _ ?_,.agg j.1 j.2⟩;simp only[Program.built,M,hd,m];unfold J5 at Y;rw[Y];simp only[wV]at Z;simpa using Z
   .simp at h
  .simp at h
 .rename_i z n e J hd;split at h
  .rename_i s hs;split at h
   .rename_i I hf;simp only[aL]at h;subst h;obtain⟨it,zv,zc,M,m,O,rfl⟩:=Fm J;have o:=(wQ (G:=G) O).cells;obtain⟨ie,hie,U⟩:=Kg hs;obtain⟨V,Z,j⟩:=BU hl hp o hf;refine⟨.agg V.toArray,run_build w t _ _ ?_,.agg j.1 j.2⟩;simp only[Program.built,M,hd,m,hie,U];simp only[wV]at Z;simpa using Z
   .simp at h
  .simp at h
 .simp at h
theorem Ks(z:List AV):∀(n j:Nat),j<n*z.length->(mw z n)[j]?=z[j%z.length]?
 |0,j,h=>by simp at h
 |n+1,j,h=>by
  simp only[mw];by_cases o:j<z.length
  .rw[jG o,Nat.mod_eq_of_lt o]
  .have Z:j<n*z.length+z.length:=by simpa [tZ]using h
   rw[nK ac,Ks z n (j-z.length) ac]
   congr 1
   exact(Nat.mod_eq_sub_mod ac).symm
theorem BW(z:List AV):∀n,(mw z n).length=n*z.length
 |0=>by simp[mw]
 |n+1=>by simp[mw,BW z n,pL];omega
theorem Kt{z:List AV}{Z:Array Value}(J:cm G z Z.toList)(n:Nat):cm G (mw z n) (((Array.range (n*z.length)).map (Z[·% Z.size]!))).toList:=by
 have M:=J.1;refine⟨by simp[BW],fun j c v hc V=>?_⟩;have o:j<n*z.length:=by
  have:=(fw.1 hc).1;rw[BW]at this;exact this
 rw[Ks z n j o]at hc;simp only[Fy,Array.toList_range,eS,Fz o,pM]at V;have m:0<z.length:=by
  rcases Nat.eq_zero_or_pos z.length with e|e
  .rw[e]at o;omega
  .exact e
 have U:j%z.length<z.length:=Nat.mod_lt _ m;have Y:Z.size=z.length:=by simpa using M.symm
 refine J.2 (j%z.length) c v hc ?_;rw[Y]at V;rw[<-V];simp[Y,U]
theorem Ku{K:Nat->Option (Nat×Nat)}:∀{Z:List (Nat×AV)}{z Y:List AV},rB K z Z=some Y->Y.length=z.length
 |[],z,Y,h=>by simp only[rB,aL]at h;rw[h]
 |(i,c)::Z,z,Y,h=>by
  simp only[rB]at h;split at h
  .simp at h
  .split at h
   .simp at h
   .rename_i hc;rw[Ku h,Ul];apply Fx;intro J;exact hc (.inr ac)
theorem Kv{t:TypeId}{len:Nat}{ps:List (Nat×AV)}{pv:List (Nat×Value)}{c:AV}(hl:ps.length=pv.length)(hp:∀(i:Nat) p q,ps[i]?=some p->pv[i]?=some q->p.1=q.1/\VR G p.2 q.2)
 (C:zmb P H t len ps=some (c,H')):qF P G w (Instr.buildSlice t len pv.toArray) id c H H':=by
 unfold zmb at C;split at C
 .rename_i e hd;split at C
  .rename_i s z K hz;split at C
   .rename_i hc;obtain⟨h24,Z⟩:=hc;split at C
    .rename_i J I;simp only[cZ]at C;obtain⟨rfl,rfl⟩:=C;obtain⟨zv,o,O⟩:=yR hz;have Y:=Kt (O G) len;obtain⟨V,m,j⟩:=BU hl hp Y I;have hlen:V.length=len*s:=by
      rw[<-j.1,Ku I,BW,Z]
     refine⟨.cells J 0 true,.cells (V++[]).toArray e,V.length+0,.slice (some ⟨w.heap.size,0,none⟩) len len,rfl,?_,.cells J V [] e j,fun G' hG=>.sl hG (aB _) ac⟩;rw[bj];show _=Result.ok (Value.slice (some ⟨w.heap.size,0,none⟩) len len) _
     .have U:¬(len*s > 2^24):=by omega
      rw[Z]at m;by_cases M:len*s=0
      .rw[M]at m;simp at m;simp[Instr.buildSlice,zmA hd,jU K,M,newRow];rw[show Array.map (fun _:Nat=>(default:Value)) (Array.range 0)=#[]from by simp,m];rfl
      .simp only[wV]at m;simp[Instr.buildSlice,zmA hd,jU K,U,M,o,m,newRow]
    .simp at C
   .simp at C
  .simp at C
 .simp at C
theorem Kw{t:TypeId}{l c r:AV}{C cv:Value}(hl:VR G l C)(hc:VR G c cv)(V:znz P H t l c=some (r,H')):
 qF P G w (Instr.makeSlice t C cv) id r H H':=by
 unfold znz at V;split at V
 .rename_i e k1 l k2 c hd;cases hl;cases hc;split at V
  .rename_i s b z hs hb hz;split at V
   .rename_i U;obtain⟨m,h2,h3,h4⟩:=U;simp only[cZ]at V;obtain⟨rfl,rfl⟩:=V;obtain⟨Z,o,J⟩:=yR hz;obtain⟨i,hi,O⟩:∃i,P.info? e=some i/\i.bytes=b:=by simpa [zmg,sA]using hb
    have V:zmr=70368744177664:=rfl;rw[V]at h2 h3;have Y:=Kt (J G) l;have K:((Array.range (c*s)).map (Z.cells[·% Z.cells.size]!)).toList=((Array.range (l*s)).map (Z.cells[·% Z.cells.size]!)).toList++(((Array.range (c*s)).map (Z.cells[·% Z.cells.size]!)).toList.drop (l*s)):=by
     have M:l*s<=c*s:=wW _ m
     conv=>lhs;rw[<-FA (l*s) ((Array.range (c*s)).map (Z.cells[·% Z.cells.size]!)).toList]
     congr 1
     simp only[Fy,Array.toList_range,<-List.map_take];rw[List.take_range,wX M]
    rw[h4]at Y;have j:Made G (.cells (mw z l) 0 true) _ _:=.cells _ _ (((Array.range (c*s)).map (Z.cells[·% Z.cells.size]!)).toList.drop (l*s)) e Y;rw[<-K,wV]at j;refine⟨_,_,_,.slice (some ⟨w.heap.size,0,none⟩) l c,rfl,?_,j,fun G' hG=>.sl hG m ?_⟩
    .show _=Result.ok (Value.slice (some ⟨w.heap.size,0,none⟩) l c) _;have zlG:IntKind.i64.wrap (l:Int)=l:=yV _ ac;have w2:IntKind.i64.wrap (c:Int)=c:=yV _ ac;have I:¬((b:Int)*c > 2^48):=by
      have:(b:Int)*c=((c*b:Nat):Int):=by rw[Nat.mul_comm];simp
      rw[this];omega
     have h5:¬((281474976710656:Int)<(b:Int)*c):=wU;have h6:¬(c<l):=ac;have p1:¬((c:Int)<0):=ac;have p2:¬((l:Int)<0):=ac;simp only[Instr.makeSlice,fA,zmA hd,fF,asInt,asIntOf];by_cases h0:c*s=0
     .simp[wR hi,O,zlG,w2,h5,h6,p1,p2,jU hs,h0,newRow];rw[show ∀f g:Nat->Value,Array.map f (Array.range 0)=Array.map g (Array.range 0)from fun f g=>ax]
     .simp[wR hi,O,zlG,w2,h5,h6,p1,p2,jU hs,h0,o,newRow]
    .have M:l*s<=c*s:=wW _ m;simp;omega
   .simp at V
  .simp at V
 .simp at V
end
section
variable {P:Program} {B:Bs} {G:Gh} {H H':Hp} {w:World}
theorem cm.oneCell{cs:List AV}{vs:List Value}(h:cm G cs vs)(J:cs.all AV.one=true):∀v∈vs,v.oneCell'=true:=fun v Z=>by
 obtain⟨i,I,rfl⟩:=yM Z;have m:i<cs.length:=by rw[h.1];exact I
 rw[(h.2 i _ _ (aT m) (aT I)).oneCell];exact iP.1 J _ (cR m)
theorem UL{xs:List (List AV)}{s:Nat}(U:∀(i:Nat) (V:List AV),xs[i]?=some V->V.length=s):xs.flatten.length=xs.length*s /\
 ∀(i j:Nat) (c:AV),j<s->xs.flatten[i*s+j]?=some c->∃V,xs[i]?=some V/\V[j]?=some c:=by
 induction xs with
 |nil=>exact⟨ax,ax⟩
 |cons V xs ih=>
  have hr:=U 0 V rfl;obtain⟨m,Z⟩:=ih (fun i r I=>U (i+1) r wU);refine⟨by simp[m,hr,tZ];omega,fun i j c o hc=>?_⟩;rw[mW]at hc;cases i with
  |zero=>
   rw[vm,bL,jG ac]at hc;exact⟨V,rfl,hc⟩
  |succ i=>
   rw[nK (by rw[hr,tZ];omega)]at hc;rw[hr,show(i+1)*s+j-s=i*s+j by rw[tZ];omega]at hc;obtain⟨r,Y,O⟩:=Z i j c o hc;exact⟨r,sw,O⟩
theorem UM{k n s:Nat}(h:k<n*s):k/s<n/\k%s<s/\k=k/s*s+k%s:=by
 have U:0<s:=by
  rcases Nat.eq_zero_or_pos s with e|e
  .subst e;omega
  .exact e
 refine⟨(Nat.div_lt_iff_lt_mul U).2 h,Nat.mod_lt _ U,?_⟩;have:=Nat.div_add_mod k s;rw[Nat.mul_comm]at this;omega
theorem UN(h:R B H w G){t:TypeId}{x c:AV}{C:Value}{lo I:Option AV}{J Z:Option Value}(V:VR G x C)(M:vn G lo J)(O:vn G I Z)(U:pC P H t x lo I=some c):
 ∃v,(Instr.sliceAt t C J Z none).run P w=.ok v w/\VR G c v:=by
 unfold pC at U;split at U
 .rename_i r Y;split at U
  .rename_i n e cs m j hd hg;split at U
   .rename_i z l h' hz bl bh;split at U
    .rename_i hc;obtain⟨h1,h2,h3⟩:=hc;cases V with
     |ptr hr=>
      rename_i b o x;have hf:=h.fits _ _ _ _ _ _ _ hr hg;have hb:=FC (P:=P) (w:=w) (cap:=n) M O bl bh h1 h2 (aB _) false;have K:(Instr.sliceAt t (.pointer (some ⟨b,o+Y,none⟩)) J Z none).run P w=.ok (.slice (some (if n=l then ⟨b,o+Y,none⟩else ⟨b,o+Y+l*z,none⟩)) (h'-l) (n-l)) w:=by
       simp only[Instr.sliceAt,fA,zmA hd,fF];simp[Instr.sureAddr,hb,jU hz,oF]
      split at U
      .rename_i e1;simp only[aL]at U;subst U;subst e1;rw[oG]at K;exact⟨_,K,.lst0 _ _⟩
      .rename_i hne;simp only[aL]at U;subst U;rw[af ac]at K;refine⟨_,K,?_⟩;rw[iE];refine .sl hr ac ?_;have e3:(n-l)*z+l*z=n*z:=Fs;omega
    .simp at U
   .simp at U
  .simp at U
 .exact UJ V M O U
theorem FD(h:R B H w G){s n:Nat}{x:AV}{xv:Value}{l:List AV}(hx:VR G x xv)(U:zmM H s x=some (n,l)):
 ∃m,cm G l m/\m.length=n*s/\(∀J,(Builtin.lenOf xv).run P J=.ok n J)/\(∀J,(∀a,J.cell? a=w.cell? a)->(Builtin.firstCells s n xv).run P J=.ok m.toArray J):=by
 unfold zmM at U;split at U
 .rename_i r off Y z;cases hx with
  |sl hr hl hc=>
   rename_i b o x O;split at U
   .rename_i cs imm tip hg;simp only[]at U;split at U
    .rename_i hlen;simp only[cZ]at U;obtain⟨rfl,rfl⟩:=U;obtain⟨vs,h1,h2⟩:=(((h.cells _ _ _ _ _ _ _ hr hg).drop off).take (Y*s)).list;have Z:vs.length=Y*s:=by rw[<-h1.1];exact hlen
     refine⟨vs,h1,Z,fun J=>BQ,fun J hw=>?_⟩;exact FB J s Y _ Y O vs Z (fun j v hj=>by rw[hw,oF];exact h2 j v hj)
    .simp at U
   .simp at U
 .rename_i M;split at U
  .rename_i hall;simp only[cZ]at U;obtain⟨rfl,rfl⟩:=U;have I:∀(i:Nat) (V:List AV),M[i]?=some V->V.length=s:=fun i V hi=>by
    have:=iP.1 hall V (j7 hi);simpa using this
   obtain⟨hfl,hfg⟩:=UL I;cases hx with
   |lst0 a O=>
    refine⟨[],qD G,ax,fun J=>BQ,fun J hw=>?_⟩;cases a with
    |none=>simp[Builtin.firstCells]
    |some a=>
     simp[Builtin.firstCells];rfl
   |lst vs hz hF hv hcap=>
    rename_i b o O z;have hzs:M.length=0\/z=s:=by
     cases M with
     |nil=>exact .inl rfl
     |cons V M=>exact .inr (by rw[<-hz 0 V rfl,I 0 V rfl])
    have hh:jI G w b o M.flatten:=fun k c hk=>by
     have C:k<M.length*s:=by rw[<-hfl];exact(fw.1 hk).1
     obtain⟨d1,d2,d3⟩:=UM C;have hz':z=s:=by
      rcases hzs with e|e
      .rw[e]at C;omega
      .exact e
     subst hz';obtain⟨V,g1,g2⟩:=hfg (k/z) (k%z) c d2 (by rw[<-d3];exact hk);refine⟨vs (k/z) (k%z),?_,hv _ _ V c g1 g2⟩;have:=h.frz _ _ _ (hF (k/z) (k%z) d1 d2);rw[show o+k=o+k/z*z+k%z by omega];exact this
    obtain⟨m,h1,h2⟩:=hh.list;have Z:m.length=M.length*s:=by rw[<-h1.1];exact hfl
    refine⟨m,h1,Z,fun J=>BQ,fun J hw=>?_⟩;exact FB J s M.length _ M.length O m Z (fun j v hj=>by rw[hw,oF];exact h2 j v hj)
  .simp at U
 .simp only[cZ]at U;obtain⟨rfl,rfl⟩:=U;cases hx;exact⟨[],qD G,ax,fun J=>BQ,fun J hw=>by simp[Builtin.firstCells]⟩
 .rename_i b;split at U
  .rename_i e;subst e;simp only[cZ]at U;obtain⟨rfl,rfl⟩:=U;cases hx with
   |str K _ hb=>
    subst hb;have hsz:K.data.toList.length=K.size:=by show K.data.toList.length=K.data.size;simp
    refine⟨K.data.toList.map fun x=>.int .u8 x.toNat,⟨ax,fun i c v hc hv=>?_⟩,ax,fun J=>by simp[Builtin.lenOf,hsz],fun J hw=>?_⟩
    .rw[eS]at hc hv;cases hi:K.data.toList[i]? with
     |none=>rw[hi]at hc;simp at hc
     |some u=>
      rw[hi]at hc hv;simp only[pM]at hc hv;subst hc hv;exact .int _ _
    .simp only[Builtin.firstCells,lB]
     congr 1
     apply pJ;have:(K.extract 0 K.data.toList.length).data.toList=K.data.toList:=by
      rw[Lib.extract_data,fH,BR,yW]
     simp only[Fy,this]
  .simp at U
 .simp at U
theorem Kx(z:Array Value)(n:Nat):(Builtin.zeroCells z n).toList.length=n*z.size:=by simp[Builtin.zeroCells]
theorem Ky{t u e ty:TypeId}{Y:TypeDesc}(hd:P.underlying t=some (.slice e))(J:P.underlying u=some Y)(Z:∀k,Y≠.int k){s:Nat}(U:zlq P e=some s)
 {a:Option Addr}{len cap n:Nat} (V:len+n<=cap) {C:Value}{o:List Value} (M:(Builtin.lenOf C).run P w=.ok n w) (K:(Builtin.firstCells s n C).run P w=.ok o.toArray w) :
 (Builtin.append_ #[t,u] ty #[.slice a len cap,C]).run P w=(match a with
   |some a=>((storeCells (a.add (len*s)) o).run P w).andThen fun _ O=>.ok (.slice (some a) (len+n) cap) O
   |none=>.ok (.slice none (len+n) cap) w):=by
 have I:(match Y with|.int _=>true |_=>false)=false:=by cases Y<;>first|rfl|exact(Z _ rfl).elim
 simp only[Builtin.append_];simp[zmA hd,zmA J,jU U,M];rw[am V,K];cases a<;>simp
theorem Kz{t u e ty:TypeId}{Y:TypeDesc}(hd:P.underlying t=some (.slice e))(J:P.underlying u=some Y)(Z:∀k,Y≠.int k){s:Nat}(K:zlq P e=some s){b:Nat}(j:zmg P e=some b)
 {M:Value} (hz:∀w,(zeroValue e).run P w=.ok M w)
 {a:Option Addr}{len cap n:Nat} (V:cap<len+n) (m:(len+n)*b<=zmr) (z:len+n<=zmr) {C:Value}{ov o:List Value} (hl:(Builtin.lenOf C).run P w=.ok n w) (hf:(Builtin.firstCells s n C).run P w.drew=.ok o.toArray w.drew)
 (ho:(Builtin.firstCells s len (.slice a len cap)).run P w.drew=.ok ov.toArray w.drew) :
 (Builtin.append_ #[t,u] ty #[.slice a len cap,C]).run P w=.ok (.slice (some ⟨w.heap.size,0,none⟩) (len+n) (grownCap w (len+n) cap e))
   (w.drew.alloc (.cells (ov++o++(Builtin.zeroCells M.cells (grownCap w (len+n) cap e-(len+n))).toList).toArray e)):=by
 have hz':(match Y with|.int _=>true |_=>false)=false:=by cases Y<;>first|rfl|exact(Z _ rfl).elim
 obtain⟨i,hi,U⟩:∃i,P.info? e=some i/\i.bytes=b:=by simpa [zmg,sA]using j
 have hm:zmr=70368744177664:=rfl;rw[hm]at m z;have O:¬(281474976710656<Builtin.nextslicecap (len+n) cap*b):=by
  have:=growslice_fits V (bytes:=b) ac;omega
 have I:¬(9223372036854775807<((len:Int)+(n:Int))):=ac;have h1:¬(len+n<=cap):=ac;simp only[Builtin.append_];simp[zmA hd,zmA J,jU K,hl,h1,wR hi,U,I,O,Question.forced,ho,hf,hz,newRow,grownCap]
 congr 2
 apply pJ;simp
theorem R.heap{w':World}(h:R B H w G)(e:w'.heap=w.heap):R B H w' G:=by
 have k:∀a,w'.cell? a=w.cell? a:=fun a=>by simp[World.cell?,e]
 have V:∀a,w'.frozen? a=w.frozen? a:=fun a=>by simp[World.frozen?,e]
 exact{
  base:=by rw[e];exact h.base
  dom:=h.dom
  lt:=fun r b o x hr=>by rw[e];exact h.lt r b o x hr
  cells:=fun r b o x z imm Y hr hc j c Z=>by rw[k];exact h.cells r b o x z imm Y hr hc j c Z
  imm:=h.imm
  ext:=h.ext
  fits:=h.fits
  room:=fun r b o x z imm Y hr hc j Z M=>by rw[k,V];exact h.room r b o x z imm Y hr hc j Z M
  apart:=h.apart
  map:=fun r b o x I hr hc=>by rw[e];exact h.map r b o x I hr hc
  mapApart:=h.mapApart
  frz:=fun b o v K=>by rw[k];exact h.frz b o v K
  val:=h.val
  sym:=h.sym}
theorem Step.of_drew{K:Nat}{w':World}{O:Gh}(h:Step B K G w.drew H' w' O):Step B K G w H' w' O:=
 ⟨h.r,h.ext,⟨h.fr.os,h.fr.tape,h.fr.output,h.fr.size,h.fr.block⟩,h.new,h.low,h.mono,h.icy⟩
theorem jI.first{b o off s len:Nat}{cs:List AV}(Y:jI G w b o cs)(M:off+len*s=cs.length){cap:Nat}:
 ∃ov,cm G (cs.drop off) ov/\ov.length=len*s/\∀J,(∀a,J.cell? a=w.cell? a)->(Builtin.firstCells s len (.slice (some ⟨b,o+off,none⟩) len cap)).run P J=.ok ov.toArray J:=by
 obtain⟨vs,m,U⟩:=(Y.drop off).list;have Z:vs.length=len*s:=by rw[<-m.1,lA];omega
 exact⟨vs,m,Z,fun J O=>FB J s len _ len cap vs Z (fun j v V=>by rw[O,oF];exact U j v V)⟩
theorem KA{u:TypeId}(h:znh P u=true):∃d,P.underlying u=some d/\∀k,d≠.int k:=by
 unfold znh at h;split at h
 .rename_i e hd;exact⟨_,hd,ax⟩
 .rename_i hd;exact⟨_,hd,ax⟩
 .simp at h
theorem UO(h:R B H w G)(keep:Bool)(s:Nat)(sv:AV):Step B H.next G w (iC keep H s sv) w G:=by
 unfold iC;split
 .rename_i r off len z;split
  .rename_i cs imm hg;split
   .rename_i hc;simp only[co]at hc;have h1:off+len*s<cs.length:=by simpa [jH]using hc.1.2
    have h2:=yX hc.2;generalize off+len*s=m at h1 h2;have hgs:∀C b',(H.set r (.cells (cs.take m) imm true)).get C=some b'->(C=r/\b'=.cells (cs.take m) imm true)\/(C≠r/\H.get C=some b'):=fun C b' he=>by
     rw[aJ]at he;split at he
     .rename_i e;simp only[aL]at he;exact .inl ⟨e,he.symm⟩
     .rename_i e;exact .inr ⟨e,he⟩
    have Y:∀C K Z O,(H.set r (.cells (cs.take m) imm true)).get C=some (.cells K Z O)->∃M,H.get C=some (.cells M Z O)/\(∀(j:Nat) c,K[j]?=some c->M[j]?=some c)/\K.length<=M.length/\(∀x,zmJ x K O=zmJ x M O):=fun C K Z O he=>by
     rcases hgs C _ he with⟨rfl,e⟩|⟨_,e⟩
     .simp only[HB.cells.injEq]at e;obtain⟨rfl,rfl,rfl⟩:=e;refine⟨cs,hg,fun j c I=>?_,yT,fun x=>rfl⟩;rw[rD]at I;split at I
      .exact I
      .simp at I
     .exact⟨K,e,fun _ _ h=>h,aB _,fun _=>rfl⟩
    refine⟨?_,wO _,yN _ _,vi _ _,fun _ _ h=>.inl h,aB _,fun _ _ _ h=>.inl h⟩;exact{
     base:=h.base
     dom:=h.dom
     lt:=h.lt
     cells:=fun C b o x K Z O hr V j c I=>by
      obtain⟨M,J,e2,_⟩:=Y C K Z O V;exact h.cells C b o x M Z O hr J j c (e2 j c I)
     imm:=fun C b o x K Z O hr V j I hjl=>by
      obtain⟨M,J,_,e3,_⟩:=Y C K Z O V;exact h.imm C b o x M Z O hr J j I ac
     ext:=fun C b o x K Z O hr V=>by
      obtain⟨M,J,_,e3,e4⟩:=Y C K Z O V;have:=h.ext C b o x M Z O hr J;rw[e4];omega
     fits:=fun C b o x K Z O hr V=>by
      obtain⟨M,J,_,e3,e4⟩:=Y C K Z O V;have:=h.fits C b o x M Z O hr J;omega
     room:=fun C b o x K Z O hr V j I hjl=>by
      obtain⟨M,J,_,_,e4⟩:=Y C K Z O V;exact h.room C b o x M Z O hr J j I (by rw[<-e4];exact hjl)
     apart:=fun r1 b1 o1 x1 cs1 imm1 tip1 r2 b2 o2 x2 cs2 imm2 tip2 hr1 hc1 hr2 U hne j j' q1 q2 q3 q4=>by
      obtain⟨cs01,J,_,_,e14⟩:=Y r1 cs1 imm1 tip1 hc1;obtain⟨cs02,e2,_,_,e24⟩:=Y r2 cs2 imm2 tip2 U;exact h.apart r1 b1 o1 x1 cs01 imm1 tip1 r2 b2 o2 x2 cs02 imm2 tip2 hr1 J hr2 e2 hne j j' q1 (by rw[<-e14];exact q2) q3 (by rw[<-e24];exact q4)
     map:=fun C b o x es hr V=>by
      rcases hgs C _ V with⟨_,e⟩|⟨_,e⟩
      .simp at e
      .exact h.map C b o x es hr e
     mapApart:=fun r1 b1 o1 x1 es r2 b2 o2 x2 hr1 hc1 hr2 U hne=>by
      rcases hgs r1 _ hc1 with⟨_,e⟩|⟨_,e⟩
      .simp at e
      .refine h.mapApart r1 b1 o1 x1 es r2 b2 o2 x2 hr1 e hr2 ?_ hne;rw[aJ]at U;split at U
       .rename_i e2;rw[e2,hg];rfl
       .exact U
     frz:=h.frz
     val:=h.val
     sym:=h.sym}
   .exact mC h
  .exact mC h
 .exact mC h
theorem UP(h:R B H w G){keep:Bool}{t u ty:TypeId}{sv x c:AV}{Y xv:Value}(M:VR G sv Y)(hx:VR G x xv)(O:zmc P keep H t u sv x=some (c,H')):
 ∃v w' G',(Builtin.append_ #[t,u] ty #[Y,xv]).run P w=.ok v w'/\VR G' c v/\Step B H.next G w H' w' G':=by
 unfold zmc at O;split at O
 .rename_i e hd;split at O
  .rename_i s b z hs hb hz;split at O
   .rename_i zn4 hst o;obtain⟨du,hu,hni⟩:=KA hst;obtain⟨nv,h1,h2,h3,h4⟩:=FD (P:=P) h hx o;have hnv:nv=[]:=by rw[vm]at h2;exact List.length_eq_zero_iff.1 h2
    subst hnv;have key:∀a len cap,Y=.slice a len cap->len<=cap->(Builtin.append_ #[t,u] ty #[Y,xv]).run P w=.ok Y w:=fun a len cap e hlc=>by
     subst e;rw[Ky hd hu hni hs (n:=0) ac (h3 w) (h4 w (fun _=>rfl))];cases a<;>simp[storeCells]
    split at O
    .simp only[cZ]at O;obtain⟨rfl,rfl⟩:=O;refine⟨Y,w,G,?_,M,mC h⟩;cases M with
     |sl hr hl hc=>exact key _ _ _ rfl hl
    .simp only[cZ]at O;obtain⟨rfl,rfl⟩:=O;refine⟨Y,w,G,?_,M,mC h⟩;cases M with
     |lst vs hz hF hv hc=>exact key _ _ _ rfl hc
     |lst0 a cap=>exact key _ _ _ rfl (dm _)
    .simp only[cZ]at O;obtain⟨rfl,rfl⟩:=O;refine⟨Y,w,G,?_,M,mC h⟩;cases M with
     |nilS=>exact key _ _ _ rfl (aB _)
    .simp at O
   .rename_i n V hnz hst o;obtain⟨du,hu,hni⟩:=KA hst;obtain⟨nv,h1,h2,h3,h4⟩:=FD (P:=P) h hx o;have hn0:n≠0:=fun e=>by subst e;exact hnz rfl
    have hnl:V.length=n*s:=by rw[h1.1,h2]
    obtain⟨zv,hzr,hzv⟩:=yR hz;split at O
    .rename_i hcond;obtain⟨hone,hzl⟩:=hcond;have hzs:zv.cells.size=s:=by have:=(hzv G).1;rw[hzl]at this;simpa using this.symm
     have ht:=UO h keep s sv
     suffices hgoal:∃v w' G',(Builtin.append_ #[t,u] ty #[Y,xv]).run P w=.ok v w'/\VR G' c v/\Step B (iC keep H s sv).next G w H' w' G' by
      obtain⟨v,w',G',g1,g2,g3⟩:=hgoal;exact⟨v,w',G',g1,g2,ht.trans g3⟩
     replace h:=ht.r;clear ht o;generalize iC keep H s sv=H at O h⊢;unfold znM at O;split at O
     ·-- onto nil
      split at O
      .rename_i hroom;simp only[cZ]at O;obtain⟨rfl,rfl⟩:=O;cases M;have K:=Kz (P:=P) (w:=w) (ty:=ty) hd hu hni hs hb hzr (a:=none) (len:=0) (cap:=0) (n:=n) (ov:=[]) ac (by simpa using hroom.1) (by simpa using hroom.2) (h3 w) (h4 w.drew (fun _=>rfl)) (by simp[Builtin.firstCells]);have Z:=BL (h.heap (w':=w.drew) rfl) h1 (Builtin.zeroCells zv.cells (grownCap w (0+n) 0 e-(0+n))).toList e;have hge:=grownCap_ge w (0+n) 0 e;refine⟨_,_,_,K,?_,Z.of_drew⟩;rw[bL]at hge⊢;refine .sl (sF _ _ _) hge ?_;rw[Kx,hzs,h2];have:grownCap w n 0 e*s=n*s+(grownCap w n 0 e-n)*s:=Fs;simp;omega
      .simp at O
     ·-- onto a row of its own
      rename_i r off len zz;split at O
      .rename_i cs imm hg;split at O
       .rename_i hcond2;obtain⟨hr1,hr2,hend,rfl,himm⟩:=hcond2;cases M with
        |sl hr hlc hcx=>
         rename_i U J x0 cap;have hHolds:=h.cells _ _ _ _ _ _ _ hr hg;have hex:=h.ext _ _ _ _ _ _ _ hr hg;simp only[zmJ]at hex;have hoff:off<=cs.length:=ac;obtain⟨ov,o1,o2,o3⟩:=hHolds.first (P:=P) (off:=off) (s:=zz) (len:=len) hend (cap:=cap)
         have I:r≠H.next:=fun e=>by have:=h.dom _ _ hr;omega
         by_cases hfit:len+n<=cap
         ·-- in its room
          have K:=Ky (P:=P) (w:=w) (ty:=ty) hd hu hni hs (a:=some ⟨U,J+off,none⟩) hfit (h3 w) (h4 w (fun _=>rfl));simp only[]at K;rw[oF,iE,hend]at K;have hcap:(len+n)*zz<=cap*zz:=wW _ hfit;rw[pL]at hcap;cases keep with
          |false=>
           simp only[dE,dL,cZ]at O;obtain⟨rfl,rfl⟩:=O;obtain⟨w',hw,m⟩:=Fl P hr cs.length V nv cs 0 H w h hg h1 (h1.oneCell hone) ac ac yJ ax;rw[hw]at K;simp only[fF]at K;rw[sG,Kc]at m;have hstr:=Kd m.r (r:=r) (cs:=cs++V) (imm:=imm) hr gQ (off:=off) b9;refine⟨_,w',_,K,?_,(m.trans hstr).congr rfl fun k _=>?_⟩
           .refine .sl (sF _ _ _) hfit ?_;omega
           .rw[zkZ,zkZ,znf,znf,aJ,BS hoff];simp only[zn0,zli];by_cases e1:k=H.next
            .simp only[e1,dB]
            .by_cases e2:k=r
             .simp only[e2,dB]
             .simp only[e1,e2,dL]
          |true=>
           simp only[dB,cZ]at O;obtain⟨rfl,rfl⟩:=O;have C:=yQ h hr hg (n:=cs.length) himm (aB _) true (fun _=>rfl);obtain⟨w',hw,m⟩:=Fl P (G:=G.ice w U J cs.length) (r:=r) (imm:=cs.length) (tip:=true) hr cs.length V nv cs 0 _ w C.r gQ (h1.mono C.ext) (h1.oneCell hone) ac ac yJ ax;rw[hw]at K;simp only[fF]at K;rw[sG,Kc]at m;have hgr:((H.set r (.cells cs cs.length true)).set r (.cells (cs++V) cs.length true)).get r=some (.cells (cs++V) cs.length true):=gQ;have hstr:=Kd m.r (r:=r) (cs:=cs++V) (imm:=cs.length) hr hgr (off:=off) b9;have hmid:=(C.trans m).trans hstr;have hrr:((G.ice w U J cs.length).add H.next (U,J+off,x0-off)).β r=some (U,J,x0):=by
            simp only[Gh.add];rw[af I];exact hr
           have hnoMap:∀r1 b1 o1 x1 es,((G.ice w U J cs.length).add H.next (U,J+off,x0-off)).β r1=some (b1,o1,x1) ->
            ((((H.set r (.cells cs cs.length true)).set r (.cells (cs++V) cs.length true)).kill r).alloc (.cells ((cs++V).drop off) (cs.length-off) true)).get r1=some (.map es)->b1≠U:=fun r1 b1 o1 x1 es g1 g2=>by
            rw[zkZ,znf,aJ,aJ]at g2;simp only[zn0,zli]at g2;by_cases hne:r1=H.next
            .simp[hne]at g2
            .by_cases hne2:r1=r
             .simp[hne2]at g2
             .simp only[hne,hne2,dL]at g2;have g1':G.β r1=some (b1,o1,x1):=by simp only[Gh.add]at g1;rw[af hne]at g1;exact g1
              exact h.mapApart r1 b1 o1 x1 es r U J x0 g1' g2 hr (by rw[hg];rfl) hne2
           have hHolds':jI ((G.ice w U J cs.length).add H.next (U,J+off,x0-off)) w' U J cs:=fun j c hj=>by
            have hjl:j<cs.length:=(fw.1 hj).1;have h5:=m.r.cells r U J x0 _ _ _ hr hgr j c (by rw[jG hjl];exact hj);obtain⟨v,q1,q2⟩:=h5;exact⟨v,q1,q2.mono hstr.ext⟩
           have hFF:∀j,j<cs.length->∃v,((G.ice w U J cs.length).add H.next (U,J+off,x0-off)).F U (J+j)=some v:=fun j hj=>
            C.r.imm r U J x0 cs cs.length true hr gQ j hj hj
           have hrev:=Up hmid.r hrr (h.fits _ _ _ _ _ _ _ hr hg) hHolds' hFF hnoMap;refine⟨_,w',_,K,?_,(hmid.trans hrev).congr rfl fun k _=>?_⟩
           .refine .sl (sF _ _ _) hfit ?_;omega
           .rw[aJ,zkZ,zkZ,znf,aJ,aJ,aJ,BS hoff];simp only[zn0,zli];have:cs.length-off=len*zz:=ac;rw[this];by_cases e1:k=r
            .subst e1;simp only[I,dB,dL]
            .simp only[e1,dL]
         ·-- a V row
          have hfit':cap<len+n:=ac;have K:=Kz (P:=P) (w:=w) (ty:=ty) hd hu hni hs hb hzr (a:=some ⟨U,J+off,none⟩) hfit' hr1 hr2 (h3 w) (h4 w.drew (fun _=>rfl)) (o3 w.drew (fun _=>rfl));have hge:=grownCap_ge w (len+n) cap e;have hlen2:(ov++nv).length=(len+n)*zz:=by rw[fj,o2,h2,pL]
          have hcapx:grownCap w (len+n) cap e*zz=(ov++nv).length+(Builtin.zeroCells zv.cells (grownCap w (len+n) cap e-(len+n))).toList.length:=by
           rw[Kx,hzs,hlen2,<-pL];congr 1;omega
          have Z:=(BL (h.heap (w':=w.drew) rfl) (o1.append h1) (Builtin.zeroCells zv.cells (grownCap w (len+n) cap e-(len+n))).toList e).of_drew;have hnn:∀(X:HB) (k:Nat),k≠H.next->(H.alloc X).get k=H.get k:=fun X k hk=>by rw[zkZ,af hk]
          have hadd:∀p,(G.add H.next p).β H.next=some p:=fun p=>sF _ _ _
          have hlenX:(cs.drop off++V).length=(len+n)*zz:=by rw[fj,lA,hnl,pL];omega
          cases keep with
          |false=>
           simp only[dE,dL,cZ]at O;obtain⟨rfl,rfl⟩:=O;have hk:=Z.r.kill r;have hgx:((H.alloc (.cells (cs.drop off++V) 0 true)).kill r).get H.next=some (.cells (cs.drop off++V) 0 true):=by
            rw[znf,af (Ne.symm I),zkZ,am rfl]
           have C:=yQ hk (hadd _) hgx (n:=imm-off) (dm _) (by rw[hlenX,pL];omega) true (fun _=>rfl);have hst2:Step B H.next G w _ _ _:=⟨hk,Z.ext,Z.fr,Z.new,Z.low,Z.mono,Z.icy⟩
           refine⟨_,_,_,K,?_,(hst2.trans C).congr rfl fun k _=>?_⟩
           .exact .sl (hadd _) hge ac
           .rw[aJ,zkZ,znf,znf,zkZ];simp only[zn0];by_cases e1:k=H.next
            .simp only[e1,dB]
            .simp only[e1,dL]
          |true=>
           simp only[dB,cZ]at O;obtain⟨rfl,rfl⟩:=O;have hgx:(H.alloc (.cells (cs.drop off++V) 0 true)).get H.next=some (.cells (cs.drop off++V) 0 true):=gH
           have C:=yQ Z.r (hadd _) hgx (n:=len*zz) (dm _) (by rw[hlenX,pL];omega) true (fun _=>rfl);have hgr:((H.alloc (.cells (cs.drop off++V) 0 true)).set H.next (.cells (cs.drop off++V) (len*zz) true)).get r=some (.cells cs imm true):=by
            rw[aJ,af I,hnn _ _ I];exact hg
           have hice2:=yQ C.r (r:=r) (by
            show(G.add H.next _).β r=_;simp only[Gh.add];rw[af I];exact hr) hgr (n:=cs.length) himm (aB _) false ax
           refine⟨_,_,_,K,?_,((Z.trans C).trans hice2).congr rfl fun k _=>?_⟩
           .exact .sl (hadd _) hge ac
           .rw[aJ,aJ,zkZ,zkZ,aJ];simp only[zli];by_cases e1:k=H.next
            .have e3:¬H.next=r:=fun e=>I e.symm
             simp only[e1,e3,dB,dL]
            .simp only[e1,dL]
       .simp at O
      .simp at O
     .simp at O
    .simp at O
   .simp at O
  .simp at O
 .simp at O
end
section
variable {P:Program} {B:Bs} {G:Gh} {H H':Hp} {w:World}
theorem UQ(o:ByteArray):o.data.toList.length=o.size:=by show o.data.toList.length=o.data.size;simp
theorem KB(h:R B H w G){m:AV}{mv:Value}{I:List (AV×AV)}(V:VR G m mv)(Y:uY H m=some I):
 (mv=.map none/\I=[])\/∃r b o x ms Z,m=.map r/\mv=.map (some b)/\G.β r=some (b,o,x)/\H.get r=some (.map I)/\w.heap[b]?=some (.map ms Z)/\sC G I ms.toList:=by
 unfold uY at Y;split at Y
 .simp only[aL]at Y;subst Y;cases V;exact .inl ⟨rfl,rfl⟩
 .rename_i r;split at Y
  .rename_i O K;simp only[aL]at Y;subst Y;cases V with
   |map hr=>
    rename_i b o x;obtain⟨ms,Z,U,j⟩:=h.map r b o x _ hr K;exact .inr ⟨r,b,o,x,ms,Z,rfl,rfl,hr,K,U,j⟩
  .simp at Y
 .simp at Y
theorem yZ{b:Nat}{ms:Array MapEntry}{Z:Nat}(h:w.heap[b]?=some (.map ms Z)):(getObj b).run P w=.ok (.map ms Z) w:=by
 simp[getObj,Sem.run,h]
theorem UR(h:R B H w G){t ty:TypeId}{x c:AV}{C:Value}(Z:VR G x C)(M:zlS P H t x=some c):∃v,(Builtin.len_ #[t] ty #[C]).run P w=.ok v w/\VR G c v:=by
 unfold zlS at M;split at M
 .rename_i hd;split at M
  .simp only[aL]at M;subst M;cases Z with
   |str j _ U=>
    subst U;refine⟨_,?_,.int _ _⟩;rw[UQ];simp[Builtin.len_,zmA hd,goInt]
  .simp at M
 .rename_i e hd;split at M
  .simp only[aL]at M;subst M;cases Z;exact⟨_,yU,.int _ _⟩
  .simp only[aL]at M;subst M;cases Z
   .exact⟨_,yU,.int _ _⟩
   .exact⟨_,yU,.int _ _⟩
  .simp only[aL]at M;subst M;cases Z;exact⟨_,yU,.int _ _⟩
  .simp at M
 .rename_i n e hd;simp only[aL]at M;subst M;refine⟨.int .i64 n,?_,.int _ _⟩;simp only[Builtin.len_];simp[zmA hd,goInt]
 .rename_i K e hd;split at M
  .rename_i I V;simp only[aL]at M;subst M;rcases KB h Z V with⟨rfl,rfl⟩|⟨r,b,o,z,ms,Y,rfl,rfl,hr,m,O,J⟩
   .exact⟨_,yU,.int _ _⟩
   .refine⟨.int .i64 I.length,?_,.int _ _⟩;have:ms.size=I.length:=by have:=J.1;simpa using this.symm
    simp[Builtin.len_,zmA hd,yZ O,goInt,this]
  .simp at M
 .simp at M
theorem US{J:Bool}{x y c:AV}{C o:Value}(Z:VR G x C)(z:VR G y o)(h:mm J x y=some c):∃v,((if J then Builtin.max2 else Builtin.min2) C o).run P w=.ok v w/\VR G c v:=by
 unfold mm at h;split at h
 .simp only[aL]at h;subst h;cases Z;cases z;cases J
  .refine⟨_,rfl,?_⟩;simp only[dE,dL,jJ];exact .int _ _
  .refine⟨_,rfl,?_⟩;simp only[dB,jJ];exact .int _ _
 .simp at h
theorem FE{J:Bool}:∀{Y:List AV}{C:List Value}{x c:AV}{Z:Value},VR G x Z->cm G Y C->tR J x Y=some c ->
 ∃v,(C.foldlM (if J then Builtin.max2 else Builtin.min2) Z).run P w=.ok v w/\VR G c v
 |[],C,x,c,Z,hx,hxs,h=>by
  simp only[tR,aL]at h;subst h;have:C=[]:=by have:=hxs.1;simpa using this.symm
  subst this;exact⟨Z,rfl,hx⟩
 |y::ys,[],_,_,_,_,hxs,_=>by have:=hxs.1;simp at this
 |y::ys,yv::yvs,x,c,Z,hx,hxs,h=>by
  obtain⟨m,j⟩:=hxs.of_cons;simp only[tR]at h;split at h
  .rename_i z V;obtain⟨M,U,I⟩:=US (P:=P) (w:=w) hx m V;obtain⟨v,k1,O⟩:=FE I j h;exact⟨v,by rw[List.foldlM_cons,fA,U];exact k1,O⟩
  .simp at h
theorem FF{t:TypeId}{d:TypeDesc}(h:nH P t=some d):P.underlying t=some d/\((∃k,d=.int k)\/d=.string\/d=.bool):=by
 unfold nH at h;split at h<;>simp only[aL,reduceCtorEq]at h<;>subst h
 .rename_i k hd;exact⟨hd,.inl ⟨k,rfl⟩⟩
 .rename_i hd;exact⟨hd,.inr (.inl rfl)⟩
 .rename_i hd;exact⟨hd,.inr (.inr rfl)⟩
theorem FG{d:TypeDesc}{x y:AV}{C Z:Value}{r:Bool}(o:VR G x C)(z:VR G y Z)(h:pD d x y=some r):Instr.sameNow d C Z=some r:=by
 unfold pD at h;split at h
 .split at h
  .cases o;cases z;exact h
  .simp at h
 .split at h
  .cases o with
   |str a _ O=>cases z with
    |str b _ Y=>
     subst O Y;simp only[aL]at h;subst h;simp only[Instr.sameNow,aL];show(a.data == b.data)=(a.data.toList == b.data.toList);rw[BI];simp only[pK,Array.toList_inj]
  .simp at h
 .split at h
  .cases o;cases z;exact h
  .simp at h
 .simp at h
theorem FH{d:TypeDesc}{k:AV}{kv:Value}(o:VR G k kv):∀{I:List (AV×AV)}{ms:List MapEntry}{i:Nat},sC G I ms ->
 (zmS d k I i=some none->Instr.findNow d kv ms i=some none) /\
 (∀j v,zmS d k I i=some (some (j,v))->∃k' m,I[j-i]?=some (k',v)/\ms[j-i]?=some m/\i<=j/\pD d k k'=some true/\Instr.findNow d kv ms i=some (some (j,m.val)))
 |[],ms,i,he=>by
  have:ms=[]:=by have:=he.1;simpa using this.symm
  subst this;exact⟨fun _=>rfl,fun j v h=>by simp[zmS]at h⟩
 |e::I,[],i,he=>by have:=he.1;simp at this
 |(k',v')::I,m::ms,i,he=>by
  obtain⟨Z,h2⟩:=he.2 0 (k',v') m rfl rfl;have Y:sC G I ms:=⟨by simpa using he.1,fun j a b O C=>he.2 (j+1) a b (by simpa using O) (by simpa using C)⟩;obtain⟨M,U⟩:=FH (d:=d) o (i:=i+1) Y;constructor
  .intro h;simp only[zmS]at h;split at h
   .simp at h
   .rename_i K;have:=FG o Z K;simp only[Instr.findNow,this];exact M h
   .simp at h
  .intro j v h;simp only[zmS]at h;split at h
   .rename_i K;simp only[cZ]at h;obtain⟨rfl,rfl⟩:=h;have:=FG o Z K;exact⟨k',m,ax,ax,aB _,K,by simp only[Instr.findNow,this]⟩
   .rename_i K;have:=FG o Z K;obtain⟨J,z,g1,g2,g3,g4,g5⟩:=U j v h;have V:j-i=(j-(i+1))+1:=ac;refine⟨J,z,by rw[V];simpa using g1,by rw[V];simpa using g2,ac,g4,?_⟩;simp only[Instr.findNow,this];exact g5
   .simp at h
theorem UT(n:Nat){J:TypeId}{d:TypeDesc}(hd:nH P J=some d)(e:Bool)(kv:Value):(Instr.checkKey e (n+1) J kv).run P w=.ok () w:=by
 obtain⟨m,j⟩:=FF hd;simp only[Instr.checkKey,fA,zmA m,fF];rcases j with⟨k,rfl⟩|rfl|rfl<;>rfl
theorem y9{J:TypeId}{d:TypeDesc}(hd:nH P J=some d)(e:Bool)(kv:Value):(Instr.checkKey e 10000 J kv).run P w=.ok () w:=UT 9999 hd e kv
theorem za{J:TypeId}{d:TypeDesc}(hd:P.underlying J=some d){kv:Value}{ms:List MapEntry}{r:Option (Nat×Value)}(h:Instr.findNow d kv ms 0=some r):(Instr.findKey J kv ms).run P w=.ok r w:=by
 simp[Instr.findKey,zmA hd,h]
theorem UU{t V e:TypeId}{d:TypeDesc}(hd:P.underlying t=some (.map V e))(o:nH P V=some d){mv kv:Value}{ok:Bool}{ms:Array MapEntry}
 (M:(mv=.map none/\ms=#[])\/∃b Z,mv=.map (some b)/\w.heap[b]?=some (.map ms Z)) :
 (∀j v,Instr.findNow d kv ms.toList 0=some (some (j,v))->(Instr.lookup t mv kv ok).run P w=.ok (if ok then .tuple #[v,.bool true]else v) w) /\
 (∀Y,(zeroValue e).run P w=.ok Y w->Instr.findNow d kv ms.toList 0=some none->(Instr.lookup t mv kv ok).run P w=.ok (if ok then .tuple #[Y,.bool false]else Y) w):=by
 have C:=(FF o).1;rcases M with⟨rfl,rfl⟩|⟨b,Z,rfl,O⟩
 .refine⟨fun j v K=>by simp[Instr.findNow]at K,fun Y J K=>?_⟩;have U:=za (P:=P) (w:=w) C K;simp only[Instr.lookup,fA,zmA hd,fF,lB,y9 o,U,J]
 .refine⟨fun j v K=>?_,fun Y J K=>?_⟩
  .have U:=za (P:=P) (w:=w) C K;simp only[Instr.lookup,fA,zmA hd,fF,yZ O,lB,y9 o,U]
  .have U:=za (P:=P) (w:=w) C K;simp only[Instr.lookup,fA,zmA hd,fF,yZ O,lB,y9 o,U,J]
theorem UV(h:R B H w G){t:TypeId}{m k c:AV}{mv kv:Value}{ok:Bool}(z:VR G m mv)(hk:VR G k kv)(M:jK P H t m k ok=some c):
 ∃v,(Instr.lookup t mv kv ok).run P w=.ok v w/\VR G c v:=by
 unfold jK at M;split at M
 .rename_i kt e hd;split at M
  .rename_i es I J K;obtain⟨ms,U,O⟩:∃ms:Array MapEntry,((mv=.map none/\ms=#[])\/∃b Z,mv=.map (some b)/\w.heap[b]?=some (.map ms Z))/\sC G es ms.toList:=by
    rcases KB h z J with⟨rfl,rfl⟩|⟨r,b,o,xx,ms,Z,rfl,rfl,hr,hg,hw,he⟩
    .exact⟨#[],.inl ⟨rfl,rfl⟩,rfl,ax⟩
    .exact⟨ms,.inr ⟨b,Z,rfl,hw⟩,he⟩
   obtain⟨f1,f2⟩:=FH (d:=I) hk (i:=0) O;obtain⟨r1,r2⟩:=UU (kv:=kv) (ok:=ok) hd K U;split at M
   .rename_i j v V;simp only[aL]at M;subst M;obtain⟨k',m',g1,g2,_,_,g5⟩:=f2 j v V;have Y:=(O.2 _ _ _ g1 g2).2;refine⟨_,r1 _ _ g5,?_⟩;cases ok
    .exact Y
    .exact .tup (vs:=[m'.val,.bool true]) rfl (mV Y (mV (.bool true) (qD _))).2
   .rename_i V;split at M
    .rename_i v Y;simp only[aL]at M;subst M;obtain⟨zv,z1,C⟩:=Uq Y;refine⟨_,r2 _ (z1 w) (f1 V),?_⟩;cases ok
     .exact C G
     .exact .tup (vs:=[zv,.bool false]) rfl (mV (C G) (mV (.bool false) (qD _))).2
    .simp at M
   .simp at M
  .simp at M
 .simp at M
end
section
variable {P:Program} {B:Bs} {G:Gh} {H H':Hp} {w:World}
theorem KC(h:R B H w G){r b o x:Nat}{es K:List (AV×AV)}{ms':Array MapEntry}{clock':Nat}(hr:G.β r=some (b,o,x))(hg:H.get r=some (.map es))(he:sC G K ms'.toList):
 Step B H.next G w (H.set r (.map K)) {w with heap:=w.heap.setIfInBounds b (.map ms' clock') } G:=by
 obtain⟨ms,clock,hw,_⟩:=h.map r b o x es hr hg;have hb:b<w.heap.size:=(h.lt r b o x hr).2
 let w':World:={w with heap:=w.heap.setIfInBounds b (.map ms' clock') }
 have M:∀k,k≠b->w'.heap[k]?=w.heap[k]?:=fun k U=>by
  show(w.heap.setIfInBounds b _)[k]?=_;rw[wN,af (Ne.symm U)]
 have hheapb:w'.heap[b]?=some (.map ms' clock'):=by
  show(w.heap.setIfInBounds b _)[b]?=_;simp[hb]
 have J:∀b' Y v,w.cell? ⟨b',Y,none⟩=some v->b'≠b:=fun b' Y v hc e=>by
  subst e;unfold World.cell? at hc;rw[hw]at hc;simp at hc
 have O:∀b' Y v,w.cell? ⟨b',Y,none⟩=some v->w'.cell? ⟨b',Y,none⟩=some v:=fun b' Y v hc=>by
  rw[World.cell?_of_block (w:=w) (M b' (J b' Y v hc))];exact hc
 have Z:∀k,k≠r->(H.set r (.map K)).get k=H.get k:=fun k U=>by rw[aJ,af U]
 have I:(H.set r (.map K)).get r=some (.map K):=gQ;refine⟨?_,wO _,⟨rfl,rfl,rfl,ax,fun k U hn=>M k (fun e=>hn r b o x hr e.symm)⟩,vi _ _,fun _ _ h=>.inl h,aB _,fun _ _ _ h=>.inl h⟩;exact{
  base:=by have:=h.base;simpa using this
  dom:=h.dom
  lt:=fun r b o x hr=>by have:=h.lt r b o x hr;simpa using this
  cells:=fun k b' Y z C imm V U hc=>by
   by_cases e:k=r
   .subst e;rw[I]at hc;simp at hc
   .rw[Z k e]at hc;intro j c hj;obtain⟨v,h1,h2⟩:=h.cells k b' Y z C imm V U hc j c hj;exact⟨v,O _ _ _ h1,h2⟩
  imm:=fun k b' Y z C imm V U hc=>by
   by_cases e:k=r
   .subst e;rw[I]at hc;simp at hc
   .rw[Z k e]at hc;exact h.imm k b' Y z C imm V U hc
  ext:=fun k b' Y z C imm V U hc=>by
   by_cases e:k=r
   .subst e;rw[I]at hc;simp at hc
   .rw[Z k e]at hc;exact h.ext k b' Y z C imm V U hc
  fits:=fun k b' Y z C imm V U hc=>by
   by_cases e:k=r
   .subst e;rw[I]at hc;simp at hc
   .rw[Z k e]at hc;exact h.fits k b' Y z C imm V U hc
  room:=fun k b' Y z C imm V U hc j hj hjl=>by
   by_cases e:k=r
   .subst e;rw[I]at hc;simp at hc
   .rw[Z k e]at hc;obtain⟨⟨v,h1⟩,h2,h3⟩:=h.room k b' Y z C imm V U hc j hj hjl;refine⟨⟨v,O _ _ _ h1⟩,?_,h3⟩;rw[World.frozen?_of_block (w:=w) (M b' (J _ _ _ h1))];exact h2
  apart:=fun k1 b1 o1 x1 cs1 imm1 tip1 k2 b2 o2 x2 cs2 imm2 tip2 hk1 m hk2 hc2=>by
   by_cases e1:k1=r
   .subst e1;rw[I]at m;simp at m
   .by_cases e2:k2=r
    .subst e2;rw[I]at hc2;simp at hc2
    .rw[Z k1 e1]at m;rw[Z k2 e2]at hc2;exact h.apart k1 b1 o1 x1 cs1 imm1 tip1 k2 b2 o2 x2 cs2 imm2 tip2 hk1 m hk2 hc2
  map:=fun k b' Y z es1 U hc=>by
   by_cases e:k=r
   .subst e;have hk':=U;rw[hr]at hk';simp only[cZ]at hk';obtain⟨rfl,rfl,rfl⟩:=hk';rw[I]at hc;simp only[aL,HB.map.injEq]at hc;subst hc;exact⟨ms',clock',hheapb,he⟩
   .rw[Z k e]at hc;obtain⟨ms1,clock1,h1,h2⟩:=h.map k b' Y z es1 U hc;refine⟨ms1,clock1,?_,h2⟩;rw[M b' (fun eb=>h.mapApart k b' Y z es1 r b o x U hc hr (by rw[hg];rfl) e eb)];exact h1
  mapApart:=fun k1 b1 o1 x1 es1 k2 b2 o2 x2 hk1 m hk2 hs hne=>by
   have hs':(H.get k2).isSome:=by
    by_cases e2:k2=r
    .subst e2;rw[hg];rfl
    .rw[Z k2 e2]at hs;exact hs
   by_cases e1:k1=r
   .subst e1;exact h.mapApart k1 b1 o1 x1 es k2 b2 o2 x2 hk1 hg hk2 hs' hne
   .rw[Z k1 e1]at m;exact h.mapApart k1 b1 o1 x1 es1 k2 b2 o2 x2 hk1 m hk2 hs' hne
  frz:=fun b' Y v hf=>O _ _ _ (h.frz b' Y v hf)
  val:=h.val
  sym:=h.sym}
theorem KD{b:Nat}{ms ms':Array MapEntry}{Z clock':Nat}(h:w.heap[b]?=some (.map ms Z)):
 (setObj b (.map ms' clock')).run P w=.ok () {w with heap:=w.heap.setIfInBounds b (.map ms' clock') }:=by
 simp[setObj,Sem.run,h]
theorem UW(n:Nat){d:TypeDesc}{x y:AV}{C Z:Value}(o:VR G x C)(z:VR G y Z)(h:pD d x y=some true):Instr.sameBits n Z C=true:=by
 unfold pD at h;split at h
 .split at h
  .split at h
   .rename_i e;subst e;cases o;cases z;simp only[aL,pK]at h;subst h;cases n<;>simp[Instr.sameBits]
   .simp at h
  .simp at h
 .split at h
  .cases o with
   |str a _ O=>cases z with
    |str b _ Y=>
     subst O Y;simp only[aL,pK]at h;have U:(b == a)=true:=by
      show(b.data == a.data)=true;simp only[pK];exact(pJ h).symm
     cases n<;>simp[Instr.sameBits,U]
  .simp at h
 .split at h
  .cases o;cases z;simp only[aL,pK]at h;subst h;cases n<;>simp[Instr.sameBits]
  .simp at h
 .simp at h
theorem UX{old V:Value}(h:Instr.sameBits 10000 old V=true):(Instr.keyThatStays old V).run P w=.ok V w:=by
 unfold Instr.keyThatStays;rw[am h];rfl
theorem UY(h:R B H w G){t:TypeId}{m k v:AV}{mv kv vv:Value}(hm:VR G m mv)(hk:VR G k kv)(hv:VR G v vv)(J:znN P H t m k v=some H'):
 ∃w',(Instr.mapUpdate t mv kv vv).run P w=.ok () w'/\Step B H.next G w H' w' G:=by
 unfold znN at J;split at J
 .rename_i kt e hd;split at J
  .rename_i r Y K;split at J
   .rename_i es hg;cases hm with
    |map hr=>
     rename_i b o x;obtain⟨ms,Z,hw,I⟩:=h.map r b o x es hr hg;obtain⟨f1,f2⟩:=FH (d:=Y) hk (i:=0) I;have C:=(FF K).1;split at J
     .rename_i j v0 hf;simp only[aL]at J;subst J;obtain⟨k',m',g1,g2,_,g4,g5⟩:=f2 j v0 hf;simp only[BR]at g1 g2;have hjl:j<ms.size:=by have:=(fw.1 g2).1;simpa using this
      have V:ms[j]?=some m':=by simpa using g2
      have z:=UW 10000 hk (I.2 j _ _ g1 g2).1 g4;have U:=za (P:=P) (w:=w) C g5;refine⟨_,?_,KC h hr hg (ms':=ms.modify j fun e=>{e with key:=kv,val:=vv}) (clock':=Z) ?_⟩
      .simp only[Instr.mapUpdate,fA,zmA hd,fF,yZ hw,y9 K,U,V,oH,bI,UX z,KD hw]
      .refine⟨by have:=I.1;simpa using this,fun i a c O hc=>?_⟩;rw[oJ]at O;rw[yY,Array.getElem?_modify]at hc;by_cases e:j=i
       .subst e;rw[am rfl]at hc;rw[am rfl]at O;split at O
        .simp only[aL]at O;subst O;rw[V]at hc;simp only[pM]at hc;subst hc;exact⟨hk,hv⟩
        .simp at O
       .rw[af e]at O hc;exact I.2 i a c O BD
     .rename_i hf;simp only[aL]at J;subst J;have U:=za (P:=P) (w:=w) C (f1 hf);refine⟨_,?_,KC h hr hg (ms':=ms.push {key:=kv,val:=vv,born:=Z}) (clock':=Z+1) ?_⟩
      .simp only[Instr.mapUpdate,fA,zmA hd,fF,yZ hw,y9 K,U,KD hw]
      .refine⟨by have:=I.1;simpa using this,fun i a c O hc=>?_⟩;rw[Array.toList_push]at hc;have hl:=I.1;by_cases hi:i<es.length
       .rw[jG hi]at O;rw[jG ac]at hc;exact I.2 i a c O hc
       .rw[nK ac]at O;rw[nK ac]at hc;rw[<-hl]at hc;cases M:i-es.length with
        |zero=>
         rw[M]at O hc;simp at O hc;subst O hc;exact⟨hk,hv⟩
        |succ n=>rw[M]at O;simp at O
     .simp at J
   .simp at J
  .simp at J
 .simp at J
theorem KE:∀{z:List AV}{bs:List UInt8}{vs:List Value},u5 z=some bs->cm G z vs->∃Z:List Int,vs=Z.map (Value.int .u8)/\bs=Z.map fun n=>UInt8.ofNat n.toNat
 |[],bs,vs,h,hv=>by
  simp only[u5,aL]at h;subst h;have:vs=[]:=by have:=hv.1;simpa using this.symm
  subst this;exact⟨[],rfl,rfl⟩
 |c::z,bs,[],h,hv=>by have:=hv.1;simp at this
 |c::z,bs,v::vs,h,hv=>by
  obtain⟨m,j⟩:=hv.of_cons;unfold u5 at h;split at h
  .rename_i e;simp at e
  .rename_i n K e;simp only[ea]at e;obtain⟨rfl,rfl⟩:=e;split at h
   .rename_i Y C;simp only[aL]at h;subst h;obtain⟨Z,rfl,rfl⟩:=KE C j;cases m;exact⟨n::Z,rfl,rfl⟩
   .simp at h
  .simp at h
theorem UZ(Z:List Int):∀s:ByteArray,(Z.foldl (fun r n=>r.push (UInt8.ofNat n.toNat)) s).data.toList=s.data.toList++Z.map fun n=>UInt8.ofNat n.toNat:=by
 induction Z with
 |nil=>intro s;simp
 |cons n Z ih=>intro s;rw[List.foldl_cons,ih];simp[ByteArray.push]
theorem U0(h:R B H w G){U J:TypeId}{x c:AV}{xv:Value}(Z:VR G x xv)(z:zny P H U J x=some c):∃v,(convert U J xv).run P w=.ok v w/\VR G c v:=by
 unfold zny at z;split at z
 .rename_i e Y hd;split at z
  .rename_i V;split at z
   .rename_i n cs M;split at z
    .rename_i bs m;obtain⟨nv,h1,h2,h3,h4⟩:=FD (P:=P) h Z M;obtain⟨K,O,rfl⟩:=KE m h1;split at z
     .simp only[aL]at z;subst z;cases Z with
      |sl hr hl hcx=>
       rename_i b o xx cap;have j:=h3 w;simp[Builtin.lenOf]at j;subst j;have I:=h4 w (fun _=>rfl);simp only[Builtin.firstCells,lV]at I;rw[O]at I;refine⟨_,by rw[run_convert_bytes_string w U J e _ _ _ Y V hd,run_bytesToString w _ _ _ K I],.str _ _ ?_⟩;rw[UZ];rfl
     .simp only[aL]at z;subst z;cases Z;have j:=h3 w;simp[Builtin.lenOf]at j;have:K=[]:=by
       have e1:(K.map (Value.int .u8)).length=0:=by rw[<-O,h2,<-j]
       simpa using e1
      subst this;refine⟨.string .empty,?_,.str _ _ rfl⟩;rw[run_convert_bytes_string w U J e _ _ _ Y V hd];rfl
     .simp at z
    .simp at z
   .simp at z
  .simp at z
 .rename_i ds k hn Y hd;split at z
  .simp only[aL]at z;subst z;cases Z;refine⟨_,?_,.int _ _⟩;simp[convert,zmA Y,zmA hd,Conv.intToInt]
  .simp only[aL]at z;subst z;cases Z;rename_i k0 e0;refine⟨_,?_,.sx _ _⟩;simp[convert,zmA Y,zmA hd,Conv.intToInt,Sx.eval]
  .simp at z
 .rename_i hn Y hd;split at z
  .simp only[aL]at z;subst z;have C:=Z;cases Z with
   |str sv _ V=>
    refine⟨.string sv,?_,C⟩;simp[convert,zmA Y,zmA hd]
  .simp at z
 .simp at z
end
section
variable {P:Program} {B:Bs} {G:Gh} {H H':Hp} {w:World}
def vo(G:Gh)(E:aw)(a:Act)(xs:Array Operand):Prop:=∀x∈xs,∀c,zk4 E x=some c->VR G c (a.eval x)
theorem BX{E:aw}{a:Act}:∀{z:List Operand}{Z:List AV},(∀x∈z,∀c,zk4 E x=some c->VR G c (a.eval x))->znk E z=some Z->cm G Z (z.map a.eval)
 |[],Z,_,h=>by
  simp only[znk,aL]at h;subst h;exact qD G
 |x::z,Z,hk,h=>by
  simp only[znk]at h;split at h
  .rename_i v vs Y U;simp only[aL]at h;subst h;exact mV (hk x ax v Y) (BX (fun y hy=>hk y (by simp[hy])) U)
  .simp at h
theorem znD{s:Sem Value}{c:AV}(h:R B H w G)(U:∃v,s.run P w=.ok v w/\VR G c v):vk P B H G w (do pure (.value (<-s))) c H:=by
 obtain⟨v,m,j⟩:=U;exact⟨.value v,w,G,v,by simp[m],.inl rfl,j,mC h⟩
theorem wY{s:Sem Value}{c:AV}(U:∃v J O,s.run P w=.ok v J/\VR O c v/\Step B H.next G w H' J O):vk P B H G w (do pure (.value (<-s))) c H':=by
 obtain⟨v,J,O,m,j,z⟩:=U;exact⟨.value v,J,O,v,by simp[m],.inl rfl,j,z⟩
theorem KF{s:Sem Unit}(U:∃J,s.run P w=.ok () J/\Step B H.next G w H' J G):vk P B H G w (do s;pure .skip) zmx H':=by
 obtain⟨J,m,j⟩:=U;exact⟨.skip,J,G,undef,by simp[m],.inr ⟨rfl,rfl⟩,yO G,j⟩
theorem KG{E:aw}{a:Act}{x:Option Operand}{c:Option AV}(o:∀y∈x.toArray,∀c,zk4 E y=some c->VR G c (a.eval y))(h:lw E x=some c):vn G c (x.map a.eval):=by
 unfold lw at h;split at h
 .simp only[aL]at h;subst h;exact trivial
 .rename_i y;split at h
  .rename_i v Z;simp only[aL]at h;subst h;exact o y ax v Z
  .simp at h
theorem U1{D:BinOp->Sx->Sx->Option Bool}{E:aw}{a:Act}{o:Oper}{c:AV}(V:tU o=true)(I:vo G E a o.op.operands)(C:dH P D E H o.op=some (c,H')):qF P G w (execOp a.eval o) Next.value c H H':=by
 obtain⟨m,j,ty,pos,Y,guard⟩:=o;simp only[]at C I;cases j<;>simp only[tU,zm7,dE]at V
 case alloc t=>
  simp only[dH]at C;unfold yu at C;split at C
  .rename_i z U;simp only[cZ]at C;obtain⟨rfl,rfl⟩:=C;obtain⟨Z,z1,z2⟩:=yR U;refine qF.next ⟨.cells z 0 true,.cells (Z.cells.toList++[]).toArray t,Z.cells.toList.length+0,.pointer (some ⟨w.heap.size,0,none⟩),rfl,?_,.cells z Z.cells.toList [] t (z2 G),fun O hG=>.ptr (off:=0) hG⟩
   simp[Instr.alloc,z1,newVar,newRow]
  .simp at C
 case box t x=>
  simp only[dH]at C;unfold yw at C;split at C
  .rename_i v M;simp only[cZ]at C;obtain⟨rfl,rfl⟩:=C;have hx:=(I x fG _ M).cells;refine qF.next ⟨.cells v.cells 0 true,.cells ((a.eval x).cells.toList++[]).toArray t,(a.eval x).cells.toList.length+0,.pointer (some ⟨w.heap.size,0,none⟩),rfl,?_,.cells v.cells _ [] t hx,fun O hG=>.ptr (off:=0) hG⟩
   simp[Instr.box,newVar,newRow]
  .simp at C
 case buildSlice t len parts=>
  simp only[dH]at C;unfold yx at C;split at C
  .rename_i ps J;obtain⟨q1,q2⟩:=BV (G:=G) (a:=a) (fun p hp=>I p.2 Ft) J;have:=Kv (P:=P) (w:=w) q1 q2 C;have he:(parts.toList.map fun x=>(x.1,a.eval x.2)).toArray=parts.map fun(i,x)=>(i,a.eval x):=by
    apply pJ;simp
   rw[he]at this;exact this.next
  .simp at C
 case makeMap t r=>
  simp only[dH]at C;unfold yA at C;split at C
  .simp only[cZ]at C;obtain⟨rfl,rfl⟩:=C;refine qF.next ⟨.map [],.map #[] 0,0,.map (some w.heap.size),rfl,?_,.map,fun O hG=>.map hG⟩
   simp[Instr.makeMap]
  .simp at C
 case makeSlice t l c'=>
  simp only[dH]at C;unfold yB at C;split at C
  .rename_i lv cv K hc;exact(Kw (I l fG _ K) (I c' fG _ hc) C).next
  .simp at C
 case call cl=>
  simp only[dH,reduceCtorEq]at C
theorem U2(h:R B H w G){E:aw}{a:Act}{o:Oper}{c:AV}(I:vo G E a o.op.operands)(C:dH P B.cfg.dec E H o.op=some (c,H')):vk P B H G w (execOp a.eval o) c H':=by
 obtain⟨dst,op,ty,pos,after,guard⟩:=o;simp only[]at C I;cases op<;>simp only[dH,reduceCtorEq]at C
 case move x=>
  obtain⟨Z,rfl⟩:=znC C;exact wS h rfl (I x fG _ Z)
 case assign x=>
  obtain⟨Z,rfl⟩:=znC C;exact wS h rfl (I x fG _ Z)
 case pick x y z=>
  unfold Bn at C;split at C
  .rename_i hc;obtain⟨Z,rfl⟩:=znC C;have M:=I x fG _ hc;have:a.eval x=.bool true:=by generalize a.eval x=v at M;cases M;rfl
   exact wS h (v:=a.eval y) (by simp[execOp,asBool,this]) (I y fG _ Z)
  .rename_i hc;obtain⟨Z,rfl⟩:=znC C;have M:=I x fG _ hc;have:a.eval x=.bool false:=by generalize a.eval x=v at M;cases M;rfl
   exact wS h (v:=a.eval z) (by simp[execOp,asBool,this]) (I z fG _ Z)
  .simp at C
 case alloc t=>
  unfold yu at C;split at C
  .rename_i z hz;simp only[cZ]at C;obtain⟨rfl,rfl⟩:=C;obtain⟨zv,z1,z2⟩:=yR hz;have V:=BL h (z2 G) [] t;rw[bj,wV]at V;refine wY ⟨.pointer (some ⟨w.heap.size,0,none⟩),_,_,?_,?_,V⟩
   .simp[Instr.alloc,z1,newVar,newRow]
   .exact .ptr (off:=0) (sF _ _ _)
  .simp at C
 case box t x=>
  unfold yw at C;split at C
  .rename_i v Y;simp only[cZ]at C;obtain⟨rfl,rfl⟩:=C;have V:=BL h (I x fG _ Y).cells [] t;rw[bj,wV]at V;refine wY ⟨.pointer (some ⟨w.heap.size,0,none⟩),_,_,?_,?_,V⟩
   .simp[Instr.box,newVar,newRow]
   .exact .ptr (off:=0) (sF _ _ _)
  .simp at C
 case build t parts=>
  unfold Bo at C;split at C
  .rename_i ps J;obtain⟨Z,rfl⟩:=znC C;obtain⟨q1,q2⟩:=BV (G:=G) (a:=a) (fun p hp=>I p.2 Ft) J;have:=UK (P:=P) (w:=w) q1 q2 Z;have K:(parts.toList.map fun x=>(x.1,a.eval x.2)).toArray=parts.map fun(i,x)=>(i,a.eval x):=by
    apply pJ;simp
   rw[K]at this;exact znD h this
  .simp at C
 case buildSlice t len parts=>
  unfold yx at C;split at C
  .rename_i ps J;obtain⟨q1,q2⟩:=BV (G:=G) (a:=a) (fun p hp=>I p.2 Ft) J;have:=(Kv (P:=P) (w:=w) q1 q2 C).sim h;have K:(parts.toList.map fun x=>(x.1,a.eval x.2)).toArray=parts.map fun(i,x)=>(i,a.eval x):=by
    apply pJ;simp
   rw[K]at this;exact wY this
  .simp at C
 case load t x=>
  unfold yy at C;split at C
  .rename_i v Y;obtain⟨Z,rfl⟩:=znC C;exact znD h (Kl h (I x fG _ Y) Z)
  .simp at C
 case store t x y=>
  unfold Bp at C;split at C
  .rename_i av vv ha Y;split at C
   .rename_i H1 hs;simp only[cZ]at C;obtain⟨rfl,rfl⟩:=C;exact KF (Ur h (I x fG _ ha) (I y fG _ Y) hs)
   .simp at C
  .simp at C
 case nilCheck x=>
  unfold Bq at C;split at C
  .rename_i r off Y;simp only[cZ]at C;obtain⟨rfl,rfl⟩:=C;have hx:=I x fG _ Y;refine wS h (v:=a.eval x) ?_ hx;simp only[execOp];generalize a.eval x=v at hx⊢;cases hx;rfl
  .rename_i cs Y;simp only[cZ]at C;obtain⟨rfl,rfl⟩:=C;have hx:=I x fG _ Y;refine wS h (v:=a.eval x) ?_ hx;simp only[execOp];generalize a.eval x=v at hx⊢;cases hx;rfl
  .simp at C
 case binOp op t x y yt=>
  unfold Br at C;split at C
  .rename_i O yv hx hy;obtain⟨Z,rfl⟩:=znC C;exact znD h (UG (by rw[h.val];exact h.sym) (I x fG _ hx) (I y fG _ hy) Z)
  .simp at C
 case unOp op t x=>
  unfold Bt at C;split at C
  .rename_i O hx;obtain⟨Z,rfl⟩:=znC C;exact znD h (UH (I x fG _ hx) Z)
  .simp at C
 case convert s d x=>
  unfold yz at C;split at C
  .rename_i O hx;obtain⟨Z,rfl⟩:=znC C;exact znD h (U0 h (I x fG _ hx) Z)
  .simp at C
 case makeFunc fn first captured=>
  unfold Bu at C;split at C
  .rename_i f vs U hvs;simp only[cZ]at C;obtain⟨rfl,rfl⟩:=C;have hf:first=#[]:=by apply pJ;simpa using U
   subst hf;have:=BX (G:=G) (a:=a) (fun x hx=>I x (by simp[Op.operands];simpa using hx)) hvs;refine znD h ⟨.func (.func f) #[] (captured.map a.eval),by simp[Instr.makeFunc],?_⟩;have K:captured.map a.eval=(captured.toList.map a.eval).toArray:=Fv;rw[K];exact .clo this.1 this.2
  .simp at C
 case makeMap t r=>
  unfold yA at C;split at C
  .simp only[cZ]at C;obtain⟨rfl,rfl⟩:=C;exact wY ⟨.map (some w.heap.size),_,_,by simp[Instr.makeMap],.map (sF _ _ _),Uf h⟩
  .simp at C
 case makeSlice t l c'=>
  unfold yB at C;split at C
  .rename_i lv cv hl hc;exact wY ((Kw (I l fG _ hl) (I c' fG _ hc) C).sim h)
  .simp at C
 case slice t x lo j mx=>
  unfold yC at C;split at C
  .rename_i O l hh hx hl hi';obtain⟨Z,rfl⟩:=znC C;exact znD h (UN h (I x fG _ hx) (KG (fun y hy=>I y (by simp[Op.operands]at *;simp[hy])) hl) (KG (fun y hy=>I y (by simp[Op.operands]at *;simp[hy])) hi') Z)
  .simp at C
 case fieldAddr t x f=>
  unfold Bv at C;split at C
  .rename_i O hx;obtain⟨Z,rfl⟩:=znC C;exact znD h (Us (I x fG _ hx) Z)
  .simp at C
 case field t x f=>
  unfold Bw at C;split at C
  .rename_i O hx;obtain⟨Z,rfl⟩:=znC C;exact znD h (Ut (I x fG _ hx) Z)
  .simp at C
 case indexAddr t x i=>
  unfold Bx at C;split at C
  .rename_i O iv hx j;obtain⟨Z,rfl⟩:=znC C;exact znD h (Uu (I x fG _ hx) (I i fG _ j) Z)
  .simp at C
 case index t x i=>
  unfold By at C;split at C
  .rename_i O iv hx j;obtain⟨Z,rfl⟩:=znC C;exact znD h (Uv (I x fG _ hx) (I i fG _ j) Z)
  .simp at C
 case lookup t m k ok=>
  unfold yD at C;split at C
  .rename_i mv kv hm hk;obtain⟨Z,rfl⟩:=znC C;exact znD h (UV h (I m fG _ hm) (I k fG _ hk) Z)
  .simp at C
 case mapUpdate t m k v=>
  unfold Bz at C;split at C
  .rename_i mv kv vv hm hk Y;split at C
   .rename_i H1 hs;simp only[cZ]at C;obtain⟨rfl,rfl⟩:=C;exact KF (UY h (I m fG _ hm) (I k fG _ hk) (I v fG _ Y) hs)
   .simp at C
  .simp at C
 case extract x i=>
  unfold BA at C;split at C
  .rename_i O hx;obtain⟨Z,rfl⟩:=znC C;exact znD h (Uw (I x fG _ hx) Z)
  .simp at C
theorem U3(h:R B H w G){keep:Bool}{b:Builtin}{I:Array TypeId}{ty:TypeId}{consts:Array Bool}{cs:List AV}{vs:List Value}{c:AV}(Z:cm G cs vs)(C:rC P keep H b I.toList cs=some (c,H')):
 vk P B H G w (builtin b I ty consts vs.toArray) c H':=by
 unfold rC at C;split at C
 .split at C
  .rename_i t u s x Y;have j:I=#[t,u]:=by apply pJ;simpa using Y
   subst j
   match vs,Z with
   |[o,O],Z=>
    obtain⟨m,V⟩:=Z.of_cons;obtain⟨K,_⟩:=V.of_cons;exact wY (UP h m K C)
   |[],Z=>have:=Z.1;simp at this
   |[_],Z=>have:=Z.1;simp at this
   |_::_::_::_,Z=>have:=Z.1;simp at this
  .simp at C
 .split at C
  .rename_i t x Y;have j:I=#[t]:=by apply pJ;simpa using Y
   subst j;split at C
   .rename_i v M;simp only[cZ]at C;obtain⟨rfl,rfl⟩:=C
    match vs,Z with
    |[O],Z=>
     obtain⟨m,_⟩:=Z.of_cons;exact znD h (UR h m M)
    |[],Z=>have:=Z.1;simp at this
    |_::_::_,Z=>have:=Z.1;simp at this
   .simp at C
  .simp at C
 .split at C
  .rename_i x z;split at C
   .rename_i v U;simp only[cZ]at C;obtain⟨rfl,rfl⟩:=C
    match vs,Z with
    |[],Z=>have:=Z.1;simp at this
    |O::xvs,Z=>
     obtain⟨m,V⟩:=Z.of_cons;have:=FE (P:=P) (w:=w) m V U;exact znD h (by simpa [Builtin.max_]using this)
   .simp at C
  .simp at C
 .split at C
  .rename_i x z;split at C
   .rename_i v U;simp only[cZ]at C;obtain⟨rfl,rfl⟩:=C
    match vs,Z with
    |[],Z=>have:=Z.1;simp at this
    |O::xvs,Z=>
     obtain⟨m,V⟩:=Z.of_cons;have:=FE (P:=P) (w:=w) m V U;exact znD h (by simpa [Builtin.min_]using this)
   .simp at C
  .simp at C
 .simp at C
end
def FI:AX->Exit
 | .normal=>.normal
 | .exit id=>.exit id
 | .ret=>.ret
def lX(B:Bs)(N K:Nat)(G:Gh)(w:World)(x:AX)(C:aw)(H':Hp):Exit->Act->World->Prop:=fun e Z J=>
 e=FI x/\∃O,TR N O C Z/\Step B K G w H' J O/\Z.defers=[]
structure Fit (P:Program):Prop where
 name:∀(f:FuncId) (fn:Func),P.funcs[f]?=some fn->fn.body.isSome=true->(fn.name == "runtime.NumGoroutine")=false
 mixed:P.follows .mixedOrders=true
structure Snd (P:Program) (B:Bs) (n:Nat) (ih:Task->Res):Prop where
 call:∀f args H r H',ih (.call f args H)=.val r H'->∀G w vs,R B H w G->cm G args vs ->
  (∃fn,P.funcs[f]?=some fn/\fn.body.isSome=true)/\Calls P f vs.toArray w (fun e w'=>∃v G',e=.returned v/\VR G' r v/\Step B H.next G w H' w' G')
 code:∀f N c E H x E' H',ih (.code f N c E H)=.done x E' H'->∀G w a,R B H w G->TR N G E a->a.defers=[]->Code.wp P c (lX B N H.next G w x E' H') a w
 loop:∀f N c E H x E' H',ih (.code f N (.loop c) E H)=.done x E' H'->∀G w a,R B H w G->TR N G E a->a.defers=[]->Code.rounds P c (lX B N H.next G w x E' H') n a w
theorem FJ{P:Program}{c:Code}{Q z:Exit->Act->World->Prop}(h:∀e a w,Q e a w->z e a w):∀{n:Nat}{a:Act}{w:World},Code.rounds P c Q n a w->Code.rounds P c z n a w
 |0,_,_,hr=>hr
 |n+1,_,_,hr=>by
  rw[rounds_succ]at *;exact t9 (fun e a w o=>by
   cases e with
   |normal=>exact FJ h o
   |_=>exact h _ _ _ o) hr
theorem lX.trans{B:Bs}{N K:Nat}{G O:Gh}{w w':World}{H' M:Hp}{x:AX}{m:aw}(U:Step B K G w H' w' O){e:Exit}{a:Act}{V:World}(h:lX B N H'.next O w' x m M e a V):lX B N K G w x m M e a V:=by
 obtain⟨o,Z,Y,j,z⟩:=h;exact⟨o,Z,Y,U.trans j,z⟩
def BY:=@lX.trans
section
variable {P:Program} {B:Bs} {G:Gh} {H H':Hp} {w:World}
theorem FK{N:Nat}{E:aw}{a:Act}(h:TR N G E a){x:Operand}{c:AV}(z:zk4 E x=some c):VR G c (a.eval x):=by
 cases x with
 |tmp t=>simp only[zk4,aL]at z;subst z;exact h.slots t
 |const v=>exact wQ z
 |global g=>simp[zk4]at z
 |func f=>simp only[zk4,aL]at z;subst z;exact .clo (vs:=[]) rfl ax
theorem TR.knows{N:Nat}{E:aw}{a:Act}(h:TR N G E a)(xs:Array Operand):vo G E a xs:=fun _ _ _ hc=>FK h hc
theorem U4{E:aw}{a:Act}{d:Nat}(h:VR G (E.at d) (a.tmps.getD d undef)):(match E.at d with|.bool b=>some b |_=>none)=(match a.tmps[d]? with|some (.bool b)=>some b |_=>none):=by
 rw[j5]at h;cases hd:a.tmps[d]? with
 |none=>
  rw[hd]at h;simp only[Option.getD_none,undef]at h;generalize E.at d=c at h;cases h;rfl
 |some v=>
  rw[hd]at h;simp only[bI]at h;generalize E.at d=c at h;cases h<;>rfl
theorem U5{E:aw}{a:Act}{ops:Array Oper}{j:Nat}(h:∀d,(ops[j]?).bind (·.dst)=some d->VR G (E.at d) (a.tmps.getD d undef)):BB ops.toList E j=yielded ops a.tmps j:=by
 unfold BB yielded;rw[yY];cases hd:(ops[j]?).bind (·.dst)with
 |none=>rfl
 |some d=>exact U4 (h d hd)
theorem KH{E:aw}{a:Act}{ops:Array Oper}{o:Oper}(h:∀j b d,o.guard=some (j,b)->(ops[j]?).bind (·.dst)=some d->VR G (E.at d) (a.tmps.getD d undef)):znp ops.toList E o=Region.wanted o (yielded ops a.tmps):=by
 unfold znp Region.wanted;cases K:o.guard with
 |none=>rfl
 |some p=>
  obtain⟨j,b⟩:=p;simp only[];rw[U5 (fun d hd=>h j b d K hd)];cases yielded ops a.tmps j with
  |none=>rfl
  |some b'=>cases b<;>cases b' <;>rfl
theorem BZ(fit:Fit P){n:Nat}{ih:Task->Res}(hih:Snd P B n ih){f:FuncId}{E:aw}{a:Act}{o:Oper}{c:AV}(h:R B H w G)(hE:vo G E a o.op.operands)(C:zmz P B.cfg ih f E H o.op=.val c H')
 {K:Act->World->Prop}{Q:Exit->Act->World->Prop} (hK:∀v U M,VR M c v->Step B H.next G w H' U M->K (a.put o.dst v) U):o.wp P a w K Q:=by
 have V:∀s:Sem Next,vk P B H G w s c H'->execOp a.eval o=s->o.wp P a w K Q:=fun s hs he=>by
  obtain⟨m,U,M,v,h1,h2,h3,h4⟩:=hs;unfold Oper.wp;rw[he,h1];rcases h2 with rfl|⟨rfl,rfl⟩
  .exact hK v U M h3 h4
  .exact hK undef U M h3 h4
 unfold zmz at C;split at C
 .rename_i Y j;unfold tS at C;split at C
  .rename_i g hg;split at C
   .rename_i k cap vs hgv z;have Z:vo G E a Y.operands:=by rw[j]at hE;exact hE
    have hgr:=Z g (by simp[Call.operands,hg]) _ hgv;have I:=BX (G:=G) (a:=a) (fun x hx=>Z x (by simp[Call.operands,hg];exact .inr (by simpa using hx))) z;generalize hge:a.eval g=gv at hgr;cases hgr with
    |clo hl hv=>
     rename_i capvs;have hall:=I.append (G:=G) ⟨hl,hv⟩;obtain⟨⟨fn,hfn,hbody⟩,J⟩:=hih.call _ _ _ _ _ C G w _ h hall;have hname:=fit.name _ _ hfn hbody;unfold Oper.wp;have hrun:(execOp a.eval o).run P w=.ok (.enter k ((Y.args.toList.map a.eval)++capvs).toArray) w:=by
      have O:Y.args.map a.eval=(Y.args.toList.map a.eval).toArray:=Fv;unfold execOp;rw[j];simp only[fA,resolve,hg,hge,Deferred.ofValue,lB,fF,invoke,callFunc,run_program,hfn,hname];simp only[dE,dL];have hb:fn.body.isNone=false:=by cases hb:fn.body<;>simp_all
      rw[hb];simp[O]
     rw[hrun];show Calls P k _ w _;refine J.mono fun e U hr=>?_;obtain⟨v,M,rfl,h1,h2⟩:=hr;exact hK v U M h1 h2
   .simp at C
  .rename_i b hg;split at C
   .rename_i vs z;split at C
    .rename_i v H1 hb;simp only[Res.val.injEq]at C;obtain⟨rfl,rfl⟩:=C;have Z:vo G E a Y.operands:=by rw[j]at hE;exact hE
     have I:=BX (G:=G) (a:=a) (fun x hx=>Z x (by simp[Call.operands,hg];simpa using hx)) z;have hs:=U3 (ty:=o.type) (consts:=Y.args.map fun|.const _=>true |_=>false) h I hb;refine V _ hs ?_;have O:Y.args.map a.eval=(Y.args.toList.map a.eval).toArray:=Fv;unfold execOp;rw[j];simp only[resolve,hg,O];rfl
    .simp at C
   .simp at C
  .simp at C
 .rename_i op hne;unfold iD at C;split at C
  .rename_i v H1 ho;simp only[Res.val.injEq]at C;obtain⟨rfl,rfl⟩:=C;exact V _ (U2 h hE ho) rfl
  .simp at C
theorem FL(fit:Fit P){n:Nat}{ih:Task->Res}(m:Snd P B n ih){f N:Nat}{ops:Array Oper}:∀(l:List Oper) {E E':aw}{H:Hp}{x:AX}{a:Act}{w:World}{G:Gh}{Q:Exit->Act->World->Prop},kU P B.cfg ih f N ops.toList l E H=.done x E' H' ->
 R B H w G->TR N G E a->a.defers=[]->(∀e I Y,lX B N H.next G w x E' H' e I Y->Q e I Y)->wpList P ops Q l a w
 |[],E,E',H,x,a,w,G,Q,hr,h,ht,hd,hQ=>by
  simp only[kU,Res.done.injEq]at hr;obtain⟨rfl,rfl,rfl⟩:=hr;exact hQ _ _ _ ⟨rfl,G,ht,mC h,hd⟩
 |o::l,E,E',H,x,a,w,G,Q,hr,h,ht,hd,hQ=>by
  have z:∀E H,(List.rec (motive:=fun _=>aw->Hp->Res) (fun E H=>.done .normal E H)
   (fun o _ K E H=>match znp ops.toList E o with
     |true=>match zmz P B.cfg ih f E H o.op with
      | .val v H=>znA K H (fQ N E o.dst v)
      |_=>.fail
     |false=>znA K H (fQ N E o.dst zmx)) l E H:Res)=kU P B.cfg ih f N ops.toList l E H:=fun _ _=>rfl
  have j:kU P B.cfg ih f N ops.toList (o::l) E H=match znp ops.toList E o with
   |true=>match zmz P B.cfg ih f E H o.op with
    | .val v H=>znA (kU P B.cfg ih f N ops.toList l) H (fQ N E o.dst v)
    |_=>.fail
   |false=>znA (kU P B.cfg ih f N ops.toList l) H (fQ N E o.dst zmx):=rfl
  rw[j]at hr;have O:=KH (G:=G) (E:=E) (a:=a) (ops:=ops) (o:=o) (fun _ _ d _ _=>ht.slots d);have U:∀J v,(a.put J v).defers=[]:=fun J v=>by cases J<;>exact hd
  cases V:znp ops.toList E o with
  |true=>
   rw[V]at hr O;simp only[]at hr;split at hr
   .rename_i v H1 C;cases hp:fQ N E o.dst v with
    |none=>rw[hp]at hr;simp[znA]at hr
    |some E1=>
     rw[hp]at hr;simp only[znA]at hr;unfold wpList;rw[am O.symm];refine .inl (BZ fit m h (ht.knows _) C fun v' Y G' hv Z=>?_);have M:TR N G' E1 (a.put o.dst v'):=(ht.mono Z.ext).put hv hp;exact FL fit m l hr Z.r M (U _ _) (fun e a w he=>hQ _ _ _ (BY Z he))
   .simp at hr
  |false=>
   rw[V]at hr O;simp only[]at hr;cases hp:fQ N E o.dst zmx with
   |none=>rw[hp]at hr;simp[znA]at hr
   |some E1=>
    rw[hp]at hr;simp only[znA]at hr;unfold wpList;rw[af (by rw[<-O];simp)];exact FL fit m l hr h (ht.put (yO G) hp) (U _ _) hQ
end
section
variable {P:Program} {B:Bs} {G:Gh} {H H':Hp} {w:World} {cfg:Cfg}
theorem Sx.beq_eq:∀{a b:Sx},Sx.beq a b=true->a=b
 | .var i,b,h=>by
   cases b<;>simp only[Sx.beq,dE]at h;rw[jk h]
 | .lit i,b,h=>by
   cases b<;>simp only[Sx.beq,dE,pK]at h;rw[h]
 | .bin o k x y,b,h=>by
   cases b<;>simp only[Sx.beq,dE,lW]at h;obtain⟨⟨⟨rfl,rfl⟩,m⟩,j⟩:=h;rw[Sx.beq_eq m,Sx.beq_eq j]
 | .conv k x,b,h=>by
   cases b<;>simp only[Sx.beq,dE,lW]at h;obtain⟨rfl,m⟩:=h;rw[Sx.beq_eq m]
mutual
theorem AV.beq_eq:∀{a b:AV},AV.beq a b=true->a=b
 | .int k a,b,h=>by
   cases b<;>simp only[AV.beq,lW,pK,dE]at h;obtain⟨rfl,rfl⟩:=h;rfl
 | .sx k a,b,h=>by
   cases b<;>simp only[AV.beq,lW,dE]at h;obtain⟨rfl,m⟩:=h;rw[Sx.beq_eq m]
 | .bool a,b,h=>by
   cases b<;>simp only[AV.beq,pK,dE]at h;subst h;rfl
 | .str a,b,h=>by
   cases b<;>simp only[AV.beq,pK,dE]at h;subst h;rfl
 | .nilP,b,h=>by cases b<;>simp only[AV.beq,dE]at h;rfl
 | .nilM,b,h=>by cases b<;>simp only[AV.beq,dE]at h;rfl
 | .nilF,b,h=>by cases b<;>simp only[AV.beq,dE]at h;rfl
 | .nilS,b,h=>by cases b<;>simp only[AV.beq,dE]at h;rfl
 | .ptr r o,b,h=>by
   cases b<;>simp only[AV.beq,co,dE]at h;obtain⟨m,j⟩:=h;rw[jk m,jk j]
 | .iptr a,b,h=>by
   cases b<;>simp only[AV.beq,dE]at h;rw[qG h]
 | .sl r o l z,b,h=>by
   cases b<;>simp only[AV.beq,co,dE]at h;obtain⟨⟨⟨m,j⟩,Z⟩,Y⟩:=h;rw[jk m,jk j,jk Z,jk Y]
 | .lst a,b,h=>by
   cases b<;>simp only[AV.beq,dE]at h;rw[KI h]
 | .map r,b,h=>by
   cases b<;>simp only[AV.beq,dE]at h;rw[jk h]
 | .clo f a,b,h=>by
   cases b<;>simp only[AV.beq,co,dE]at h;rw[jk h.1,qG h.2]
 | .agg a,b,h=>by
   cases b<;>simp only[AV.beq,dE]at h;rw[qG h]
 | .tup a,b,h=>by
   cases b<;>simp only[AV.beq,dE]at h;rw[qG h]
theorem qG:∀{a b:List AV},my a b=true->a=b
 |[],b,h=>by cases b<;>simp only[my,dE]at h;rfl
 |a::x,b,h=>by
  cases b<;>simp only[my,co,dE]at h;rw[AV.beq_eq h.1,qG h.2]
theorem KI:∀{a b:List (List AV)},u7 a b=true->a=b
 |[],b,h=>by cases b<;>simp only[u7,dE]at h;rfl
 |a::x,b,h=>by
  cases b<;>simp only[u7,co,dE]at h;rw[qG h.1,KI h.2]
end
theorem KJ{Y β:Type}:∀{a b:List (Y×β)},a.map (·.1)=b.map (·.1)->a.map (·.2)=b.map (·.2)->a=b
 |[],b,h,_=>by cases b<;>simp at h;rfl
 |(x,y)::a,b,h,Z=>by
  cases b with
  |nil=>simp at h
  |cons c b=>
   obtain⟨u,v⟩:=c;simp only[dM,ea]at h Z;obtain⟨rfl,h⟩:=h;obtain⟨rfl,Z⟩:=Z;rw[KJ h Z]
theorem HB.beq_eq{a b:HB}(h:HB.beq a b=true):a=b:=by
 cases a<;>cases b<;>simp only[HB.beq,co,dE,pK]at h
 .obtain⟨⟨m,j⟩,z⟩:=h;rw[qG m,jk j,z]
 .rw[KJ (qG h.1) (qG h.2)]
def oK(P:Program)(cfg:Cfg)(ih:Task->Res)(f N:Nat)(I:List Oper):List Rec->List Oper->aw->Hp->aw->Hp->Prop
 |[],[],E,H,E',H'=>E=E'/\H=H'
 |r::rs,o::l,E,H,E',H'=>r.o=o/\r.E=E/\r.H=H/\znp I E o=r.did/\(r.did=true->zmz P cfg ih f E H o.op=.val r.val r.H')/\(r.did=false->r.val=zmx/\r.H'=H) /\
  ∃E1,fQ N E o.dst r.val=some E1/\oK P cfg ih f N I rs l E1 r.H' E' H'
 |_,_,_,_,_,_=>False
theorem zb{ih:Task->Res}{f N:Nat}{I:List Oper}:∀{l:List Oper}{E E':aw}{H H':Hp}{rs:List Rec},jW P cfg ih f N I l E H=.done E' H' rs->oK P cfg ih f N I rs l E H E' H'
 |[],E,E',H,H',rs,h=>by
  simp only[jW,ResD.done.injEq]at h;obtain⟨rfl,rfl,rfl⟩:=h;exact⟨rfl,rfl⟩
 |o::l,E,E',H,H',rs,h=>by
  simp only[jW]at h;cases O:znp I E o with
  |true=>
   rw[O]at h;simp only[]at h;cases C:zmz P cfg ih f E H o.op with
   |val v H1=>
    rw[C]at h;simp only[]at h;cases hp:fQ N E o.dst v with
    |none=>rw[hp]at h;simp[pF,pE]at h
    |some E1=>
     rw[hp]at h;simp only[pF]at h;cases hr:jW P cfg ih f N I l E1 H1 with
     |fail=>rw[hr]at h;simp[pE]at h
     |done U Z m=>
      rw[hr]at h;simp only[pE,ResD.done.injEq]at h;obtain⟨rfl,rfl,rfl⟩:=h;exact⟨rfl,rfl,rfl,O,fun _=>C,ax,E1,hp,zb hr⟩
   |done _ _ _=>rw[C]at h;simp at h
   |fail=>rw[C]at h;simp at h
  |false=>
   rw[O]at h;simp only[]at h;cases hp:fQ N E o.dst zmx with
   |none=>rw[hp]at h;simp[pF,pE]at h
   |some E1=>
    rw[hp]at h;simp only[pF]at h;cases hr:jW P cfg ih f N I l E1 H with
    |fail=>rw[hr]at h;simp[pE]at h
    |done U Z m=>
     rw[hr]at h;simp only[pE,ResD.done.injEq]at h;obtain⟨rfl,rfl,rfl⟩:=h;exact⟨rfl,rfl,rfl,O,ax,fun _=>⟨rfl,rfl⟩,E1,hp,zb hr⟩
def gV(rs:List Rec)(C:aw)(e:Nat):aw:=match rs[e]? with
 |some r=>r.E
 |none=>C
theorem FM{ih:Task->Res}{f N:Nat}{I:List Oper}:∀{rs:List Rec}{l:List Oper}{E E':aw}{H H':Hp},oK P cfg ih f N I rs l E H E' H'->rs.length=l.length
 |[],[],_,_,_,_,_=>rfl
 |[],_::_,_,_,_,_,h=>by simp[oK]at h
 |_::_,[],_,_,_,_,h=>by simp[oK]at h
 |r::rs,o::l,E,E',H,H',h=>by
  obtain⟨_,_,_,_,_,_,E1,_,h⟩:=h;simp[FM h]
theorem FN{ih:Task->Res}{f N:Nat}{I:List Oper}{rs:List Rec}{l:List Oper}{E C:aw}{H H':Hp}(h:oK P cfg ih f N I rs l E H C H'):gV rs C 0=E/\zlR rs H' 0=H:=by
 cases rs with
 |nil=>
  cases l with
  |nil=>obtain⟨rfl,rfl⟩:=h;exact⟨rfl,rfl⟩
  |cons o l=>simp[oK]at h
 |cons r rs=>
  cases l with
  |nil=>simp[oK]at h
  |cons o l=>
   obtain⟨_,m,j,_⟩:=h;exact⟨by simp[gV,m],by simp[zlR,j]⟩
structure AtD (P:Program) (cfg:Cfg) (ih:Task->Res) (f N:Nat) (all:List Oper) (o:Oper) (r:Rec) (E E1:aw) (H H1:Hp):Prop where
 eo:r.o=o
 eE:r.E=E
 eH:r.H=H
 want:znp all E o=r.did
 yes:r.did=true->zmz P cfg ih f E H o.op=.val r.val H1
 no:r.did=false->r.val=zmx/\H1=H
 put:fQ N E o.dst r.val=some E1
 eH':r.H'=H1
theorem vp{ih:Task->Res}{f N:Nat}{I:List Oper}:∀{rs:List Rec}{l:List Oper}{E E':aw}{H H':Hp},oK P cfg ih f N I rs l E H E' H'->∀{i:Nat}{r:Rec},rs[i]?=some r ->
 ∃o,l[i]?=some o/\AtD P cfg ih f N I o r (gV rs E' i) (gV rs E' (i+1)) (zlR rs H' i) (zlR rs H' (i+1))
 |[],_,_,_,_,_,_,i,r,hr=>by simp at hr
 |r::rs,[],_,_,_,_,h,_,_,_=>by simp[oK]at h
 |r::rs,o::l,E,E',H,H',h,i,r',hr=>by
  obtain⟨Y,j,z,O,M,V,E1,K,Z⟩:=h;obtain⟨C,z2⟩:=FN Z;cases i with
  |zero=>
   simp at hr;subst hr;have m:gV (r::rs) E' 1=E1:=by rw[<-C];simp[gV]
   have U:zlR (r::rs) H' 1=r.H':=by rw[<-z2];simp[zlR]
   have e3:gV (r::rs) E' 0=E:=by simp[gV,j]
   have e4:zlR (r::rs) H' 0=H:=by simp[zlR,z]
   refine⟨o,rfl,?_⟩;rw[m,U,e3,e4];exact⟨Y,j,z,O,M,fun J=>⟨(V J).1,(V J).2⟩,K,rfl⟩
  |succ i=>
   obtain⟨o',g1,g2⟩:=vp Z (i:=i) (r:=r') (by simpa using hr);have m:∀k,gV (r::rs) E' (k+1)=gV rs E' k:=fun k=>by simp[gV]
   have U:∀k,zlR (r::rs) H' (k+1)=zlR rs H' k:=fun k=>by simp[zlR]
   refine⟨o',by simpa using g1,?_⟩;rw[m,m,U,U];exact g2
def sH(op:Op):Bool:=match zm7 op with|.calm=>true |_=>false
def rE(op:Op):Bool:=match zm7 op with|.read=>true |_=>false
theorem U6{D:BinOp->Sx->Sx->Option Bool}{E:aw}{op:Op}(Z:sH op=true):∃u,∀X,dH P D E X op=ret X u:=by
 cases op<;>simp only[sH,zm7,dE]at Z<;>simp only[dH]
 case move x=>exact⟨_,fun X=>rfl⟩
 case assign x=>exact⟨_,fun X=>rfl⟩
 case pick c a b=>
  unfold Bn;cases zk4 E c with
  |none=>exact⟨none,fun X=>rfl⟩
  |some v=>cases v with
   |bool t=>cases t<;>exact⟨_,fun X=>rfl⟩
   |_=>exact⟨none,fun X=>rfl⟩
 case build t parts=>
  unfold Bo;cases lT E parts.toList with
  |none=>exact⟨none,fun X=>rfl⟩
  |some K=>exact⟨_,fun X=>rfl⟩
 case nilCheck x=>
  unfold Bq;cases zk4 E x with
  |none=>exact⟨none,fun X=>rfl⟩
  |some v=>cases v with
   |ptr r o=>exact⟨some (.ptr r o),fun X=>rfl⟩
   |iptr z=>exact⟨some (.iptr z),fun X=>rfl⟩
   |_=>exact⟨none,fun X=>rfl⟩
 case binOp op t x y yt=>
  unfold Br;cases zk4 E x with
  |none=>exact⟨none,fun X=>rfl⟩
  |some v=>cases zk4 E y with
   |none=>exact⟨none,fun X=>rfl⟩
   |some u=>exact⟨_,fun X=>rfl⟩
 case unOp op t x=>
  unfold Bt;cases zk4 E x with
  |none=>exact⟨none,fun X=>rfl⟩
  |some v=>exact⟨_,fun X=>rfl⟩
 case makeFunc fn first captured=>
  unfold Bu;cases fn with
  |func f=>
   cases first.toList with
   |nil=>cases znk E captured.toList with
    |none=>exact⟨none,fun X=>rfl⟩
    |some vs=>exact⟨some (.clo f vs),fun X=>rfl⟩
   |cons _ _=>exact⟨none,fun X=>rfl⟩
  |_=>exact⟨none,fun X=>rfl⟩
 case fieldAddr t x f=>
  unfold Bv;cases zk4 E x with
  |none=>exact⟨none,fun X=>rfl⟩
  |some v=>exact⟨_,fun X=>rfl⟩
 case field t x f=>
  unfold Bw;cases zk4 E x with
  |none=>exact⟨none,fun X=>rfl⟩
  |some v=>exact⟨_,fun X=>rfl⟩
 case indexAddr t x i=>
  unfold Bx;cases zk4 E x with
  |none=>exact⟨none,fun X=>rfl⟩
  |some v=>cases zk4 E i with
   |none=>exact⟨none,fun X=>rfl⟩
   |some u=>exact⟨_,fun X=>rfl⟩
 case index t x i=>
  unfold By;cases zk4 E x with
  |none=>exact⟨none,fun X=>rfl⟩
  |some v=>cases zk4 E i with
   |none=>exact⟨none,fun X=>rfl⟩
   |some u=>exact⟨_,fun X=>rfl⟩
 case extract x i=>
  unfold BA;cases zk4 E x with
  |none=>exact⟨none,fun X=>rfl⟩
  |some v=>exact⟨_,fun X=>rfl⟩
 all_goals exact⟨none,fun X=>rfl⟩
theorem FO{D:BinOp->Sx->Sx->Option Bool}{E:aw}{op:Op}{v:AV}(o:sH op=true)(h:dH P D E H op=some (v,H')):H'=H/\∀X,dH P D E X op=some (v,X):=by
 obtain⟨u,J⟩:=U6 (P:=P) (D:=D) (E:=E) o;rw[J]at h;obtain⟨rfl,rfl⟩:=znC h;exact⟨rfl,fun X=>by rw[J];rfl⟩
theorem FP{ih:Task->Res}{f:FuncId}{E:aw}{op:Op}{v:AV}(o:rE op=true)(h:zmz P cfg ih f E H op=.val v H'):H'=H:=by
 cases op<;>simp only[rE,zm7,dE]at o<;>simp only[zmz,dH]at h
 case load t x=>
  unfold yy at h;split at h
  .cases hx:iN P H t ‹AV› <;>rw[hx]at h<;>simp[ret,iD]at h;exact h.2.symm
  .simp[iD]at h
 case slice t x lo hi mx=>
  unfold yC at h;split at h
  .rename_i Z lv Y _ _ _;cases hx:pC P H t Z lv Y<;>rw[hx]at h<;>simp[ret,iD]at h;exact h.2.symm
  .simp[iD]at h
 case convert s d x=>
  unfold yz at h;split at h
  .cases hx:zny P H s d ‹AV› <;>rw[hx]at h<;>simp[ret,iD]at h;exact h.2.symm
  .simp[iD]at h
 case lookup t m k ok=>
  unfold yD at h;split at h
  .rename_i mv I _ _;cases hx:jK P H t mv I ok<;>rw[hx]at h<;>simp[ret,iD]at h;exact h.2.symm
  .simp[iD]at h
 case call c=>
  unfold tS at h;cases hc:c.callee with
  |value g=>rw[hc]at o;simp at o
  |invoke g m=>rw[hc]at o;simp at o
  |builtin b=>
   rw[hc]at o h;simp only[]at h;split at h
   .rename_i vs _;cases b<;>simp only[dE]at o<;>simp only[rC]at h;all_goals
     split at h
     .rename_i v1 H1 C;simp only[Res.val.injEq]at h;obtain⟨rfl,rfl⟩:=h;split at C
      .split at C
       .simp only[cZ]at C;exact C.2.symm
       .simp at C
      .simp at C
     .simp at h
   .simp at h
theorem U7{D:BinOp->Sx->Sx->Option Bool}{E:aw}{o:Oper}{v:AV}(Z:tU o=true)(h:dH P D E H o.op=some (v,H')):∃J,H'=H.alloc J:=by
 obtain⟨V,U,M,O,Y,guard⟩:=o;simp only[]at h;cases U<;>simp only[tU,zm7,dE]at Z<;>simp only[dH,reduceCtorEq]at h
 case alloc t=>
  unfold yu at h;split at h
  .simp only[cZ]at h;exact⟨_,h.2.symm⟩
  .simp at h
 case box t x=>
  unfold yw at h;split at h
  .simp only[cZ]at h;exact⟨_,h.2.symm⟩
  .simp at h
 case buildSlice t len parts=>
  unfold yx at h;split at h
  .unfold zmb at h;(repeat' split at h)<;>first|(simp only[cZ]at h;exact⟨_,h.2.symm⟩)|simp at h
  .simp at h
 case makeMap t r=>
  unfold yA at h;split at h
  .simp only[cZ]at h;exact⟨_,h.2.symm⟩
  .simp at h
 case makeSlice t l c=>
  unfold yB at h;split at h
  .unfold znz at h;(repeat' split at h)<;>first|(simp only[cZ]at h;exact⟨_,h.2.symm⟩)|simp at h
  .simp at h
theorem vr{ih:Task->Res}{f:FuncId}{E:aw}{op:Op}{v:AV}(J:∀c,op≠.call c):zmz P cfg ih f E H op=.val v H'↔dH P cfg.dec E H op=some (v,H'):=by
 have:zmz P cfg ih f E H op=iD (dH P cfg.dec E H op):=by
  unfold zmz;split
  .exact(J _ rfl).elim
  .rfl
 rw[this];cases dH P cfg.dec E H op with
 |none=>simp[iD]
 |some p=>obtain⟨a,b⟩:=p;simp[iD]
theorem U8{ih:Task->Res}{f:FuncId}{E:aw}{o:Oper}{v:AV}(Y:nI o=false)(h:zmz P cfg ih f E H o.op=.val v H'):H'=H\/∃J,H'=H.alloc J:=by
 cases K:zm7 o.op with
 |act=>simp[nI,K]at Y
 |read=>exact .inl (FP (by simp[rE,K]) h)
 |calm=>
  have Z:∀c,o.op≠.call c:=fun c e=>by
   rw[e]at K;simp only[zm7]at K;split at K<;>simp at K
  exact .inl (FO (P:=P) (by simp[sH,K]) ((vr Z).1 h)).1
 |make=>
  have Z:∀c,o.op≠.call c:=fun c e=>by
   rw[e]at K;simp only[zm7]at K;split at K<;>simp at K
  exact .inr (U7 (by simp[tU,K]) ((vr Z).1 h))
end
end Go.Ab
