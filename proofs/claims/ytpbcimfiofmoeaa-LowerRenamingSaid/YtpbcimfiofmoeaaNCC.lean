/- Parts: AbOps3, AbOps4, AbOps5, AbOps6, AbOp, AbRun, AbDraw1. -/
import Derived.Laws.Tables
import Derived.Lib.Strings
import Derived.Test.YtpbcimfiofmoeaaNCB
set_option linter.unusedSimpArgs false
set_option linter.unusedVariables false
set_option linter.unusedSectionVars false
set_option linter.defProp false
set_option maxHeartbeats 32000000
namespace Go.Ab
set_option maxRecDepth 20000
open Go
theorem AM{P:Prop}(h:P:=by rw[<- Nat.add_mul];congr 1;omega):P:=h
theorem iD{P:Prop}(h:P:=by rw[L];omega):P:=h
theorem xt{P:Prop}(h:P:=by simpa using z):P:=h
theorem xu{P:Prop}(h:P:=by simp[Builtin.lenOf]):P:=h
theorem Ec{P:Prop}(h:P:=by show U.data.toList.length=U.data.size;simp):P:=h
theorem tq{P:Prop}(h:P:=by rw[List.length_take];omega):P:=h
theorem uM{P:Prop}(h:P:=by simp[Builtin.len_,zce hd,goInt]):P:=h
theorem ef{P:Prop}(h:P:=by simp[Op.operands]):P:=h
theorem AN{P:Prop}(h:P:=by simp only[Op.operands,List.mem_toArray,List.mem_map];exact⟨p,hp,rfl⟩):P:=h
theorem AO{P:Prop}(h:P:=by apply Array.ext';simp):P:=h
def qI:=@Nat.sub_self
def i8:=@Option.map_some
def ju:=@congrArg
def dg:=@Nat.zero_le
def mZ:=@Nat.add_mul
def Ed:=@Array.toList_setIfInBounds
def kI:=@List.take_add_one
def AP:=@Decidable.byContradiction
def pG:=@Nat.add_zero
def tt:=@Array.toArray_toList
def uN:=@Nat.succ_mul
def AQ:=@Array.toList_map
def gl:=@List.getElem?_map
def aR:=@List.append_nil
def uO:=@Nat.mul_le_mul_right
def AR:=@List.take_append_drop
def tu:=@Nat.min_eq_left
def rW:=@Go.IntWalk.i64_in
def pH:=@List.flatten_cons
def uP:=@Nat.zero_mul
def AS:=@Go.run_firstCells_some
def oF:=@List.mem_of_getElem?
def fT:=@List.drop_zero
def xw:=@Nat.sub_zero
def xy:=@List.take_length
def bT:=@Bool.and_eq_true
def uQ:=@Nat.le_of_ble_eq_true
def cK:=@Bool.false_eq_true
def AT:=@List.drop_append_of_le_length
def oG:=@decide_eq_true_eq
def bP:=@Option.getD_some
def nM:=@List.getElem?_set
def uR:=@Array.getElem?_toList
def ez:=@List.cons.injEq
def nN:=@Nat.mul_one
def qJ:=@Go.Code.wp_mono
def dN:=@List.map_cons
def i9:=And.intro @bT @oG
end Go.Ab
namespace Go.Ab
set_option maxRecDepth 20000
open Go Go.RowKit
def rX(G:Gh):Option AV->Option Value->Prop
 |none,none=>True
 |some c,some v=>VR G c v
 |_,_=>False
section
variable {P:Program} {B:Bs} {G:Gh} {H H':Hp} {w:World}
theorem xz{c:AV}{v:Value}{k y:Nat}(code:BoundsCode)(h:VR G c v)(o:zcS 0 (some c)=some k)(j:k<=y):(Instr.sliceBound v y code).run P w=.ok k w:=by
 unfold zcS at o;split at o
 .simp at *
 .rename_i I n e;simp only[az]at o e;subst o;subst e;cases h;simp[Instr.sliceBound,asIntOf,j]
 .simp at o
theorem Mg{d k:Nat}{c:AV}(h:zcS d (some c)=some k):zcS 0 (some c)=some k:=by
 unfold zcS at *;split at h<;>simp_all
theorem AU{lo Y:Option AV}{M O:Option Value}{l h len cap:Nat}(K:rX G lo M)(Z:rX G Y O)(U:zcS 0 lo=some l)(V:zcS len Y=some h)(h1:l<=h)(h2:h<=len)(m:len<=cap)(o:Bool):
 (Instr.sliceBounds o len cap M O none).run P w=.ok (l,h,cap) w:=by
 cases Y with
 |none=>
  cases O with
  |some v=>exact Z.elim
  |none=>
   simp only[zcS,az]at V;subst V;cases lo with
   |none=>
    cases M with
    |some v=>exact K.elim
    |none=>
     simp only[zcS,az]at U;subst U;simp[Instr.sliceBounds]
   |some c=>
    cases M with
    |none=>exact K.elim
    |some v=>simp[Instr.sliceBounds,xz _ K U h1]
 |some C=>
  cases O with
  |none=>exact Z.elim
  |some I=>
   have z:=Mg V;cases lo with
   |none=>
    cases M with
    |some v=>exact K.elim
    |none=>
     simp only[zcS,az]at U;subst U;simp[Instr.sliceBounds,xz _ Z z (show h<=cap by omega)]
   |some c=>
    cases M with
    |none=>exact K.elim
    |some v=>simp[Instr.sliceBounds,xz _ K U h1,xz _ Z z (show h<=cap by omega)]
theorem Mh{t:TypeId}{x c:AV}{xv:Value}{lo Z:Option AV}{lov hiv:Option Value}(hx:VR G x xv)(hl:rX G lo lov)(hh:rX G Z hiv)(h:jo P t x lo Z=some c):
 ∃v,(Instr.sliceAt t xv lov hiv none).run P w=.ok v w/\VR G c v:=by
 unfold jo at h;split at h
 .rename_i s hd;split at h
  .rename_i l hh' Y V;split at h
   .rename_i hc;simp only[az]at h;subst h;cases hx with
    |str m _ hs=>
     subst hs;have hb:=AU (P:=P) (w:=w) (cap:=m.size) hl hh Y V hc.1 hc.2 (by show m.data.toList.length<=m.data.size;simp) false;have hsz:m.data.toList.length=m.size:=by show m.data.toList.length=m.data.size;simp
     rw[hsz]at hb;refine⟨.string (m.extract l hh'),?_,.str _ _ (Lib.extract_data _ _ _)⟩;simp only[Instr.sliceAt,d8,zce hd,ee,Instr.slice];simp[hb]
   .simp at h
  .simp at h
 .rename_i e y hd;split at h
  .rename_i z hz;have U:∀(a:Option Addr) (g cap l I:Nat),xv=.slice a g cap->zcS 0 lo=some l->zcS g Z=some I->l<=I->I<=g->g<=cap ->
    (Instr.sliceAt t xv lov hiv none).run P w=.ok (.slice (if cap=l then a else a.map (·.add (l*z))) (I-l) (cap-l)) w:=fun a g cap l I e1 Y V h1 J h3=>by
    subst e1;simp only[Instr.sliceAt,d8,zce hd,ee,Instr.slice];simp[AU hl hh Y V h1 J h3,zdi hz]
   split at h
   .rename_i r off g z';split at h
    .rename_i l I Y V;split at h
     .rename_i hc;obtain⟨h1,J,rfl⟩:=hc;cases hx with
      |sl hr hlc hx'=>
       rename_i b o x cap;have:=U _ g cap l I rfl Y V h1 J hlc;split at h
       .rename_i e1;simp only[az]at h;subst h;subst e1;rw[qI]at this;exact⟨_,this,.lst0 _ _⟩
       .rename_i hne;simp only[az]at h;subst h;rw[af ac]at this;refine⟨_,this,?_⟩;simp only[i8,j0];rw[i7];refine .sl hr ac ?_;have e3:(cap-l)*z'+l*z'=cap*z':=AM;omega
     .simp at h
    .simp at h
   .rename_i xs;split at h
    .rename_i l I Y V;split at h
     .rename_i hc;obtain⟨h1,J⟩:=hc;split at h
      .rename_i he;simp only[az]at h;subst h;have L:I-l=0:=by
        have:=ju List.length he;simp only[jr,js,ed]at this;omega
       cases hx with
       |lst vs hzz hF hv K=>
        have:=U _ _ _ l I rfl Y V h1 J K;rw[L]at this;exact⟨_,this,.lst0 _ _⟩
       |lst0 a cap=>
        have:=U _ _ _ l I rfl Y V h1 J (dg cap);rw[L]at this;exact⟨_,this,.lst0 _ _⟩
      .rename_i row C he;split at h
       .rename_i hrl;simp only[az]at h;subst h;have hpos:0<I-l:=by
         have:=ju List.length he;simp only[jr,js,cS]at this;omega
        cases hx with
        |lst0 a cap=>simp at J;omega
        |lst vs hzz hF hv K=>
         rename_i b o cap z';have O:=U _ _ _ l I rfl Y V h1 J K;rw[af ac]at O;have M:∀i:Nat,(row::C)[i]?=if i<I-l then xs[l+i]? else none:=fun i=>by
          rw[<-he,oC,qG]
         have hz':z'=z:=by
          have:=M 0;rw[aj hpos]at this;rw[<-hzz (l+0) row (by rw[<-this];rfl)];exact hrl
         subst hz';have L:(row::C).length=I-l:=by
          rw[<-he];simp only[jr,js];omega
         refine⟨_,O,?_⟩;simp only[i8,j0];rw[<-L];refine .lst (z:=z') (fun i j=>vs (l+i) j) (fun i rw' Z=>?_) (fun i j Z hj=>?_) (fun i j rw' d Z hj=>?_) iD
         .rw[M i]at Z;split at Z
          .exact hzz _ _ Z
          .simp at Z
         .have:=hF (l+i) j (by rw[L]at Z;omega) hj;rw[<-this]
          congr 1
          rw[mZ];omega
         .rw[M i]at Z;split at Z
          .exact hv _ _ _ _ Z hj
          .simp at Z
       .simp at h
     .simp at h
    .simp at h
   .split at h
    .rename_i Y V;simp only[az]at h;subst h;cases hx;have:=U none 0 0 0 0 rfl Y V (aA _) (aA _) (aA _);exact⟨_,this,.nilS⟩
    .simp at h
   .simp at h
  .simp at h
 .simp at h
theorem b8.splice{cs M:List AV}{vs Z:List Value}(h:b8 G cs vs)(U:b8 G M Z)(off:Nat):b8 G (Ab.splice cs off M) (vs.take off++Z++vs.drop (off+Z.length)):=by
 unfold Ab.splice;rw[U.1];exact((h.take off).append U).append (h.drop _)
theorem Ee(off:Nat):∀(Z:List Value) (k:Nat) (cells:Array Value),off+k+Z.length<=cells.size ->
 ((Z.zipIdx k).foldl (fun Y (c,j)=>Y.setIfInBounds (off+j) c) cells).toList=cells.toList.take (off+k)++Z++cells.toList.drop (off+k+Z.length)
 |[],k,cells,_=>by simp
 |v::Z,k,cells,h=>by
  simp only[cS]at h;rw[List.zipIdx_cons,List.foldl_cons,Ee off Z (k+1) _ cc];simp only[Ed,cS];have hp:off+k<cells.toList.length:=cc;have i:(cells.toList.set (off+k) v).take (off+(k+1))=cells.toList.take (off+k)++[v]:=by
   rw[<-i7,kI,List.take_set_of_le (aA _),List.getElem?_set_self hp];rfl
  rw[i,List.drop_set_of_lt ac,show off+(k+1)+Z.length=off+k+(Z.length+1) by omega];simp
theorem xA{m:Nat->Option (Nat×Nat)}:∀{ps:List (Nat×AV)}{pv:List (Nat×Value)}{cs out:List AV}{vs:List Value},ps.length=pv.length ->
 (∀(i:Nat) p q,ps[i]?=some p->pv[i]?=some q->p.1=q.1/\VR G p.2 q.2)->b8 G cs vs->oz m cs ps=some out ->
 ∃Z,Instr.fill m vs.toArray pv=some Z.toArray/\b8 G out Z
 |[],[],cs,out,vs,_,_,hv,h=>by
  simp only[oz,az]at h;subst h;exact⟨vs,rfl,hv⟩
 |[],q::pv,_,_,_,hl,_,_,_=>by simp at hl
 |p::ps,[],_,_,_,hl,_,_,_=>by simp at hl
 |(i,c)::ps,(i',v)::pv,cs,out,vs,hl,hp,hv,h=>by
  obtain⟨rfl,g⟩:=hp 0 (i,c) (i',v) rfl rfl;simp only[]at g;simp only[oz]at h;split at h
  .simp at h
  .rename_i K O Y;split at h
   .simp at h
   .rename_i C;have z:=g.cells;have V:v.cells.size=c.cells.length:=by rw[z.1];simp
    have M:v.cells.size=O/\K+v.cells.size<=vs.length:=by
     rw[V,<-hv.1];constructor
     .apply AP;intro hn;exact C (.inl hn)
     .apply AP;intro hn;exact C (.inr ac)
    obtain⟨Z,L,J⟩:=xA (ps:=ps) (pv:=pv) (cs:=Ab.splice cs K c.cells) (out:=out) (vs:=vs.take K++v.cells.toList++vs.drop (K+v.cells.toList.length))
     (by simpa using hl) (fun j p q U I=>hp (j+1) p q (by simpa using U) xl) (hv.splice z K) h
    refine⟨Z,?_,J⟩;simp only[Instr.fill,Y];rw[af cc];rw[<-L]
    congr 1
    apply mV;have hf:=Ee K v.cells.toList 0 vs.toArray cc;simp only[pG]at hf;rw[List.toList_toArray,<-hf];rw[<-Array.foldl_toList,Array.toList_zipIdx]
theorem xB{E:au}{a:Act}:∀{ps:List (Nat×Operand)}{out:List (Nat×AV)},(∀p∈ps,∀c,zaZ E p.2=some c->VR G c (a.eval p.2))->zde E ps=some out ->
 out.length=(ps.map fun x=>(x.1,a.eval x.2)).length/\∀(i:Nat) p q,out[i]?=some p->(ps.map fun x=>(x.1,a.eval x.2))[i]?=some q->p.1=q.1/\VR G p.2 q.2
 |[],out,_,h=>by
  simp only[zde,az]at h;subst h;exact⟨rfl,aw⟩
 |(i,x)::ps,out,hE,h=>by
  simp only[zde]at h;split at h
  .rename_i v vs M C;simp only[az]at h;subst h;obtain⟨Z,Y⟩:=xB (ps:=ps) (out:=vs) (fun p hp=>hE p (by simp[hp])) C;refine⟨by simpa using Z,fun j p q g I=>?_⟩;cases j with
   |zero=>
    simp at g I;subst g I;exact⟨rfl,hE (i,x) aw v M⟩
   |succ j=>exact Y j p q rR xl
  .simp at h
theorem Mi{t:TypeId}{ps:List (Nat×AV)}{pv:List (Nat×Value)}{c:AV}(m:ps.length=pv.length)(hp:∀(i:Nat) p q,ps[i]?=some p->pv[i]?=some q->p.1=q.1/\VR G p.2 q.2)(h:zb5 P t ps=some c):
 ∃v,(Instr.build t pv.toArray).run P w=.ok v w/\VR G c v:=by
 unfold zb5 at h;split at h
 .rename_i z K j hd;split at h
  .rename_i J C;split at h
   .rename_i I hf;simp only[az]at h;subst h;obtain⟨it,zv,zc,V,M,Y,rfl⟩:=AI j;have O:=(tm (G:=G) Y).cells;obtain⟨Z,U,g⟩:=xA m hp O hf;refine⟨.agg Z.toArray,run_build w t _ _ ?_,.agg g.1 g.2⟩;simp only[Program.built,V,hd,M];unfold DT at C;rw[C];simp only[tt]at U;simpa using U
   .simp at h
  .simp at h
 .rename_i z n e j hd;split at h
  .rename_i s hs;split at h
   .rename_i I hf;simp only[az]at h;subst h;obtain⟨it,zv,zc,V,M,Y,rfl⟩:=AI j;have O:=(tm (G:=G) Y).cells;obtain⟨ie,o,L⟩:=D3 hs;obtain⟨Z,U,g⟩:=xA m hp O hf;refine⟨.agg Z.toArray,run_build w t _ _ ?_,.agg g.1 g.2⟩;simp only[Program.built,V,hd,M,o,L];simp only[tt]at U;simpa using U
   .simp at h
  .simp at h
 .simp at h
theorem Ef(z:List AV):∀(n j:Nat),j<n*z.length->(mK z n)[j]?=z[j%z.length]?
 |0,j,h=>by simp at h
 |n+1,j,h=>by
  simp only[mK];by_cases g:j<z.length
  .rw[lZ g,Nat.mod_eq_of_lt g]
  .have I:j<n*z.length+z.length:=by simpa [uN]using h
   rw[mS ac,Ef z n (j-z.length) ac]
   congr 1
   exact(Nat.mod_eq_sub_mod ac).symm
theorem xC(z:List AV):∀n,(mK z n).length=n*z.length
 |0=>by simp[mK]
 |n+1=>by simp[mK,xC z n,mZ];omega
theorem Eg{z:List AV}{Z:Array Value}(Y:b8 G z Z.toList)(n:Nat):b8 G (mK z n) (((Array.range (n*z.length)).map (Z[·% Z.size]!))).toList:=by
 have K:=Y.1;refine⟨by simp[xC],fun j c v hc M=>?_⟩;have g:j<n*z.length:=by
  have:=(ej.1 hc).1;rw[xC]at this;exact this
 rw[Ef z n j g]at hc;simp only[AQ,Array.toList_range,gl,List.getElem?_range g,i8,az]at M;have V:0<z.length:=by
  rcases Nat.eq_zero_or_pos z.length with e|e
  .rw[e]at g;omega
  .exact e
 have U:j%z.length<z.length:=Nat.mod_lt _ V;have J:Z.size=z.length:=by simpa using K.symm
 refine Y.2 (j%z.length) c v hc ?_;rw[J]at M;rw[<-M];simp[J,U]
theorem Eh{m:Nat->Option (Nat×Nat)}:∀{C:List (Nat×AV)}{Y Z:List AV},oz m Y C=some Z->Z.length=Y.length
 |[],Y,Z,h=>by simp only[oz,az]at h;rw[h]
 |(i,c)::C,Y,Z,h=>by
  simp only[oz]at h;split at h
  .simp at h
  .split at h
   .simp at h
   .rename_i hc;rw[Eh h,LS];apply AP;intro hn;exact hc (.inr ac)
theorem Ei{t:TypeId}{len:Nat}{ps:List (Nat×AV)}{pv:List (Nat×Value)}{c:AV}(C:ps.length=pv.length)(m:∀(i:Nat) p q,ps[i]?=some p->pv[i]?=some q->p.1=q.1/\VR G p.2 q.2)
 (o:zcv P H t len ps=some (c,H')):nL P G w (Instr.buildSlice t len pv.toArray) id c H H':=by
 unfold zcv at o;split at o
 .rename_i e hd;split at o
  .rename_i s z V hz;split at o
   .rename_i hc;obtain⟨h24,U⟩:=hc;split at o
    .rename_i L hf;simp only[ce]at o;obtain⟨rfl,rfl⟩:=o;obtain⟨zv,O,M⟩:=uL hz;have K:=Eg (M G) len;obtain⟨Z,Y,g⟩:=xA C m K hf;have I:Z.length=len*s:=by
      rw[<-g.1,Eh hf,xC,U]
     refine⟨.cells L 0 true,.cells (Z++[]).toArray e,Z.length+0,.slice (some ⟨w.heap.size,0,none⟩) len len,rfl,?_,.cells L Z [] e g,fun G' hG=>.sl hG (aA _) ac⟩;rw[aR];show _=Result.ok (Value.slice (some ⟨w.heap.size,0,none⟩) len len) _
     .have j:¬(len*s > 2^24):=by omega
      rw[U]at Y;by_cases J:len*s=0
      .rw[J]at Y;simp at Y;simp[Instr.buildSlice,zce hd,zdi V,J,newRow];rw[show Array.map (fun _:Nat=>(default:Value)) (Array.range 0)=#[]from by simp,Y];rfl
      .simp only[tt]at Y;simp[Instr.buildSlice,zce hd,zdi V,j,J,O,Y,newRow]
    .simp at o
   .simp at o
  .simp at o
 .simp at o
theorem Ej{t:TypeId}{l c r:AV}{J cv:Value}(hl:VR G l J)(hc:VR G c cv)(V:zdC P H t l c=some (r,H')):
 nL P G w (Instr.makeSlice t J cv) id r H H':=by
 unfold zdC at V;split at V
 .rename_i e k1 l k2 c hd;cases hl;cases hc;split at V
  .rename_i s b z o hb hz;split at V
   .rename_i C;obtain⟨U,h2,h3,h4⟩:=C;simp only[ce]at V;obtain⟨rfl,rfl⟩:=V;obtain⟨Z,O,M⟩:=uL hz;obtain⟨i,hi,j⟩:∃i,P.info? e=some i/\i.bytes=b:=by simpa [zb3,oE]using hb
    have V:zcw=70368744177664:=rfl;rw[V]at h2 h3;have K:=Eg (M G) l;have Y:((Array.range (c*s)).map (Z.cells[·% Z.cells.size]!)).toList=((Array.range (l*s)).map (Z.cells[·% Z.cells.size]!)).toList++(((Array.range (c*s)).map (Z.cells[·% Z.cells.size]!)).toList.drop (l*s)):=by
     have I:l*s<=c*s:=uO _ U
     conv=>lhs;rw[<-AR (l*s) ((Array.range (c*s)).map (Z.cells[·% Z.cells.size]!)).toList]
     congr 1
     simp only[AQ,Array.toList_range,<-List.map_take];rw[List.take_range,tu I]
    rw[h4]at K;have m:Made G (.cells (mK z l) 0 true) _ _:=.cells _ _ (((Array.range (c*s)).map (Z.cells[·% Z.cells.size]!)).toList.drop (l*s)) e K;rw[<-Y,tt]at m;refine⟨_,_,_,.slice (some ⟨w.heap.size,0,none⟩) l c,rfl,?_,m,fun G' hG=>.sl hG U ?_⟩
    .show _=Result.ok (Value.slice (some ⟨w.heap.size,0,none⟩) l c) _;have zbM:IntKind.i64.wrap (l:Int)=l:=rW _ ac;have w2:IntKind.i64.wrap (c:Int)=c:=rW _ ac;have L:¬((b:Int)*c > 2^48):=by
      have:(b:Int)*c=((c*b:Nat):Int):=by rw[Nat.mul_comm];simp
      rw[this];omega
     have h5:¬((281474976710656:Int)<(b:Int)*c):=by simpa using L
     have h6:¬(c<l):=ac;have p1:¬((c:Int)<0):=ac;have p2:¬((l:Int)<0):=ac;simp only[Instr.makeSlice,d8,zce hd,ee,asInt,asIntOf];by_cases h0:c*s=0
     .simp[tn hi,j,zbM,w2,h5,h6,p1,p2,zdi o,h0,newRow];rw[show ∀f g:Nat->Value,Array.map f (Array.range 0)=Array.map g (Array.range 0)from fun f g=>aw]
     .simp[tn hi,j,zbM,w2,h5,h6,p1,p2,zdi o,h0,O,newRow]
    .have I:l*s<=c*s:=uO _ U;simp;omega
   .simp at V
  .simp at V
 .simp at V
end
section
variable {P:Program} {B:Bs} {G:Gh} {H H':Hp} {w:World}
theorem b8.oneCell{cs:List AV}{vs:List Value}(h:b8 G cs vs)(Y:cs.all AV.one=true):∀v∈vs,v.oneCell'=true:=fun v M=>by
 obtain⟨i,z,rfl⟩:=AE M;have Z:i<cs.length:=by rw[h.1];exact z
 rw[(h.2 i _ _ (aY Z) (aY z)).oneCell];exact iB.1 Y _ (dW Z)
theorem Mj{xs:List (List AV)}{s:Nat}(J:∀(i:Nat) (K:List AV),xs[i]?=some K->K.length=s):xs.flatten.length=xs.length*s /\
 ∀(i j:Nat) (c:AV),j<s->xs.flatten[i*s+j]?=some c->∃K,xs[i]?=some K/\K[j]?=some c:=by
 induction xs with
 |nil=>exact⟨aw,aw⟩
 |cons K xs ih=>
  have hr:=J 0 K rfl;obtain⟨Z,Y⟩:=ih (fun i r z=>J (i+1) r xt);refine⟨by simp[Z,hr,uN];omega,fun i j c g hc=>?_⟩;rw[pH]at hc;cases i with
  |zero=>
   rw[uP,b4,lZ ac]at hc;exact⟨K,rfl,hc⟩
  |succ i=>
   rw[mS (by rw[hr,uN];omega)]at hc;rw[hr,show(i+1)*s+j-s=i*s+j by rw[uN];omega]at hc;obtain⟨r,V,O⟩:=Y i j c g hc;exact⟨r,by simpa using V,O⟩
theorem Mk{k n s:Nat}(h:k<n*s):k/s<n/\k%s<s/\k=k/s*s+k%s:=by
 have J:0<s:=by
  rcases Nat.eq_zero_or_pos s with e|e
  .subst e;omega
  .exact e
 refine⟨(Nat.div_lt_iff_lt_mul J).2 h,Nat.mod_lt _ J,?_⟩;have:=Nat.div_add_mod k s;rw[Nat.mul_comm]at this;omega
theorem Ml(h:R B H w G){t:TypeId}{x c:AV}{j:Value}{lo Z:Option AV}{M O:Option Value}(I:VR G x j)(Y:rX G lo M)(V:rX G Z O)(J:mJ P H t x lo Z=some c):
 ∃v,(Instr.sliceAt t j M O none).run P w=.ok v w/\VR G c v:=by
 unfold mJ at J;split at J
 .rename_i r K;split at J
  .rename_i n e cs L g hd C;split at J
   .rename_i z l m i bl bh;split at J
    .rename_i hc;obtain⟨h1,h2,h3⟩:=hc;cases I with
     |ptr hr=>
      rename_i b o x;have hf:=h.fits _ _ _ _ _ _ _ hr C;have hb:=AU (P:=P) (w:=w) (cap:=n) Y V bl bh h1 h2 (aA _) false;have U:(Instr.sliceAt t (.pointer (some ⟨b,o+K,none⟩)) M O none).run P w=.ok (.slice (some (if n=l then ⟨b,o+K,none⟩else ⟨b,o+K+l*z,none⟩)) (m-l) (n-l)) w:=by
       simp only[Instr.sliceAt,d8,zce hd,ee];simp[Instr.sureAddr,hb,zdi i,j0]
      split at J
      .rename_i e1;simp only[az]at J;subst J;subst e1;rw[qI]at U;exact⟨_,U,.lst0 _ _⟩
      .rename_i hne;simp only[az]at J;subst J;rw[af ac]at U;refine⟨_,U,?_⟩;rw[i7];refine .sl hr ac ?_;have e3:(n-l)*z+l*z=n*z:=AM;omega
    .simp at J
   .simp at J
  .simp at J
 .exact Mh I Y V J
theorem AW(h:R B H w G){s n:Nat}{x:AV}{xv:Value}{l:List AV}(hx:VR G x xv)(J:zcM H s x=some (n,l)):
 ∃I,b8 G l I/\I.length=n*s/\(∀Z,(Builtin.lenOf xv).run P Z=.ok n Z)/\(∀Z,(∀a,Z.cell? a=w.cell? a)->(Builtin.firstCells s n xv).run P Z=.ok I.toArray Z):=by
 unfold zcM at J;split at J
 .rename_i r off g z;cases hx with
  |sl hr hl hc=>
   rename_i b o x V;split at J
   .rename_i cs imm tip hg;simp only[]at J;split at J
    .rename_i hlen;simp only[ce]at J;obtain⟨rfl,rfl⟩:=J;obtain⟨vs,h1,h2⟩:=(((h.cells _ _ _ _ _ _ _ hr hg).drop off).take (g*s)).list;have Y:vs.length=g*s:=by rw[<-h1.1];exact hlen
     refine⟨vs,h1,Y,fun Z=>xu,fun Z C=>?_⟩;exact AS Z s g _ g V vs Y (fun j v hj=>by rw[C,j0];exact h2 j v hj)
    .simp at J
   .simp at J
 .rename_i M;split at J
  .rename_i hall;simp only[ce]at J;obtain⟨rfl,rfl⟩:=J;have O:∀(i:Nat) (K:List AV),M[i]?=some K->K.length=s:=fun i K hi=>by
    have:=iB.1 hall K (oF hi);simpa using this
   obtain⟨hfl,hfg⟩:=Mj O;cases hx with
   |lst0 a V=>
    refine⟨[],nK G,aw,fun Z=>xu,fun Z C=>?_⟩;cases a with
    |none=>simp[Builtin.firstCells]
    |some a=>
     simp[Builtin.firstCells];rfl
   |lst vs hz hF m hcap=>
    rename_i b o V z;have hzs:M.length=0\/z=s:=by
     cases M with
     |nil=>exact .inl rfl
     |cons K M=>exact .inr (by rw[<-hz 0 K rfl,O 0 K rfl])
    have hh:hO G w b o M.flatten:=fun k c hk=>by
     have L:k<M.length*s:=by rw[<-hfl];exact(ej.1 hk).1
     obtain⟨d1,d2,d3⟩:=Mk L;have hz':z=s:=by
      rcases hzs with e|e
      .rw[e]at L;omega
      .exact e
     subst hz';obtain⟨K,g1,g2⟩:=hfg (k/z) (k%z) c d2 (by rw[<-d3];exact hk);refine⟨vs (k/z) (k%z),?_,m _ _ K c g1 g2⟩;have:=h.frz _ _ _ (hF (k/z) (k%z) d1 d2);rw[show o+k=o+k/z*z+k%z by omega];exact this
    obtain⟨I,h1,h2⟩:=hh.list;have Y:I.length=M.length*s:=by rw[<-h1.1];exact hfl
    refine⟨I,h1,Y,fun Z=>xu,fun Z C=>?_⟩;exact AS Z s M.length _ M.length V I Y (fun j v hj=>by rw[C,j0];exact h2 j v hj)
  .simp at J
 .simp only[ce]at J;obtain⟨rfl,rfl⟩:=J;cases hx;exact⟨[],nK G,aw,fun Z=>xu,fun Z C=>by simp[Builtin.firstCells]⟩
 .rename_i b;split at J
  .rename_i e;subst e;simp only[ce]at J;obtain⟨rfl,rfl⟩:=J;cases hx with
   |str U _ hb=>
    subst hb;have hsz:U.data.toList.length=U.size:=Ec;refine⟨U.data.toList.map fun x=>.int .u8 x.toNat,⟨aw,fun i c v hc m=>?_⟩,aw,fun Z=>by simp[Builtin.lenOf,hsz],fun Z C=>?_⟩
    .rw[gl]at hc m;cases hi:U.data.toList[i]? with
     |none=>rw[hi]at hc;simp at hc
     |some u=>
      rw[hi]at hc m;simp only[i8,az]at hc m;subst hc m;exact .int _ _
    .simp only[Builtin.firstCells,jt]
     congr 1
     apply mV;have:(U.extract 0 U.data.toList.length).data.toList=U.data.toList:=by
      rw[Lib.extract_data,fT,xw,xy]
     simp only[AQ,this]
  .simp at J
 .simp at J
theorem Ek(z:Array Value)(n:Nat):(Builtin.zeroCells z n).toList.length=n*z.size:=by simp[Builtin.zeroCells]
theorem El{t u e ty:TypeId}{j:TypeDesc}(hd:P.underlying t=some (.slice e))(J:P.underlying u=some j)(m:∀k,j≠.int k){s:Nat}(U:zbh P e=some s)
 {a:Option Addr}{len cap n:Nat} (Y:len+n<=cap) {Z:Value}{V:List Value} (K:(Builtin.lenOf Z).run P w=.ok n w) (O:(Builtin.firstCells s n Z).run P w=.ok V.toArray w) :
 (Builtin.append_ #[t,u] ty #[.slice a len cap,Z]).run P w=(match a with
   |some a=>((storeCells (a.add (len*s)) V).run P w).andThen fun _ M=>.ok (.slice (some a) (len+n) cap) M
   |none=>.ok (.slice none (len+n) cap) w):=by
 have L:(match j with|.int _=>true |_=>false)=false:=by cases j<;>first|rfl|exact(m _ rfl).elim
 simp only[Builtin.append_];simp[zce hd,zce J,zdi U,K];rw[aj Y,O];cases a<;>simp
theorem Em{t u e ty:TypeId}{j:TypeDesc}(hd:P.underlying t=some (.slice e))(J:P.underlying u=some j)(m:∀k,j≠.int k){s:Nat}(M:zbh P e=some s){b:Nat}(L:zb3 P e=some b)
 {U:Value} (K:∀w,(zeroValue e).run P w=.ok U w)
 {a:Option Addr}{len cap n:Nat} (Y:cap<len+n) (o:(len+n)*b<=zcw) (z:len+n<=zcw) {Z:Value}{ov O:List Value} (g:(Builtin.lenOf Z).run P w=.ok n w) (hf:(Builtin.firstCells s n Z).run P w.drew=.ok O.toArray w.drew)
 (ho:(Builtin.firstCells s len (.slice a len cap)).run P w.drew=.ok ov.toArray w.drew) :
 (Builtin.append_ #[t,u] ty #[.slice a len cap,Z]).run P w=.ok (.slice (some ⟨w.heap.size,0,none⟩) (len+n) (grownCap w (len+n) cap e))
   (w.drew.alloc (.cells (ov++O++(Builtin.zeroCells U.cells (grownCap w (len+n) cap e-(len+n))).toList).toArray e)):=by
 have hz':(match j with|.int _=>true |_=>false)=false:=by cases j<;>first|rfl|exact(m _ rfl).elim
 obtain⟨i,hi,V⟩:∃i,P.info? e=some i/\i.bytes=b:=by simpa [zb3,oE]using L
 have hm:zcw=70368744177664:=rfl;rw[hm]at o z;have C:¬(281474976710656<Builtin.nextslicecap (len+n) cap*b):=by
  have:=growslice_fits Y (bytes:=b) ac;omega
 have I:¬(9223372036854775807<((len:Int)+(n:Int))):=ac;have h1:¬(len+n<=cap):=ac;simp only[Builtin.append_];simp[zce hd,zce J,zdi M,g,h1,tn hi,V,I,C,Question.forced,ho,hf,K,newRow,grownCap]
 congr 2
 apply mV;simp
theorem R.heap{w':World}(h:R B H w G)(e:w'.heap=w.heap):R B H w' G:=by
 have k:∀a,w'.cell? a=w.cell? a:=fun a=>by simp[World.cell?,e]
 have O:∀a,w'.frozen? a=w.frozen? a:=fun a=>by simp[World.frozen?,e]
 exact{
  base:=by rw[e];exact h.base
  dom:=h.dom
  lt:=fun r b o x hr=>by rw[e];exact h.lt r b o x hr
  cells:=fun r b o x Z imm g hr hc j c Y=>by rw[k];exact h.cells r b o x Z imm g hr hc j c Y
  imm:=h.imm
  ext:=h.ext
  fits:=h.fits
  room:=fun r b o x Z imm g hr hc j Y V=>by rw[k,O];exact h.room r b o x Z imm g hr hc j Y V
  apart:=h.apart
  map:=fun r b o x U hr hc=>by rw[e];exact h.map r b o x U hr hc
  mapApart:=h.mapApart
  frz:=fun b o v hf=>by rw[k];exact h.frz b o v hf
  val:=h.val
  sym:=h.sym}
theorem Step.of_drew{L:Nat}{w':World}{C:Gh}(h:Step B L G w.drew H' w' C):Step B L G w H' w' C:=
 ⟨h.r,h.ext,⟨h.fr.os,h.fr.tape,h.fr.output,h.fr.size,h.fr.block⟩,h.new,h.low,h.mono,h.icy⟩
theorem hO.first{b o off s len:Nat}{cs:List AV}(O:hO G w b o cs)(V:off+len*s=cs.length){cap:Nat}:
 ∃ov,b8 G (cs.drop off) ov/\ov.length=len*s/\∀J,(∀a,J.cell? a=w.cell? a)->(Builtin.firstCells s len (.slice (some ⟨b,o+off,none⟩) len cap)).run P J=.ok ov.toArray J:=by
 obtain⟨vs,i,Y⟩:=(O.drop off).list;have K:vs.length=len*s:=by rw[<-i.1,js];omega
 exact⟨vs,i,K,fun J Z=>AS J s len _ len cap vs K (fun j v g=>by rw[Z,j0];exact Y j v g)⟩
theorem Eo{u:TypeId}(h:jp P u=true):∃d,P.underlying u=some d/\∀k,d≠.int k:=by
 unfold jp at h;split at h
 .rename_i e hd;exact⟨_,hd,aw⟩
 .rename_i hd;exact⟨_,hd,aw⟩
 .simp at h
theorem Mm(h:R B H w G)(keep:Bool)(s:Nat)(sv:AV):Step B H.next G w (gR keep H s sv) w G:=by
 unfold gR;split
 .rename_i r off len z;split
  .rename_i cs imm hg;split
   .rename_i hc;simp only[bT]at hc;have h1:off+len*s<cs.length:=by simpa [i4]using hc.1.2
    have h2:=uQ hc.2;generalize off+len*s=m at h1 h2;have hgs:∀U b',(H.set r (.cells (cs.take m) imm true)).get U=some b'->(U=r/\b'=.cells (cs.take m) imm true)\/(U≠r/\H.get U=some b'):=fun U b' he=>by
     rw[aC]at he;split at he
     .rename_i e;simp only[az]at he;exact .inl ⟨e,he.symm⟩
     .rename_i e;exact .inr ⟨e,he⟩
    have C:∀U V Z M,(H.set r (.cells (cs.take m) imm true)).get U=some (.cells V Z M)->∃Y,H.get U=some (.cells Y Z M)/\(∀(j:Nat) c,V[j]?=some c->Y[j]?=some c)/\V.length<=Y.length/\(∀x,zcp x V M=zcp x Y M):=fun U V Z M he=>by
     rcases hgs U _ he with⟨rfl,e⟩|⟨_,e⟩
     .simp only[HB.cells.injEq]at e;obtain⟨rfl,rfl,rfl⟩:=e;refine⟨cs,hg,fun j c g=>?_,tq,fun x=>rfl⟩;rw[oC]at g;split at g
      .exact g
      .simp at g
     .exact⟨V,e,fun _ _ h=>h,aA _,fun _=>rfl⟩
    refine⟨?_,tk _,uH _ _,rS _ _,fun _ _ h=>.inl h,aA _,fun _ _ _ h=>.inl h⟩;exact{
     base:=h.base
     dom:=h.dom
     lt:=h.lt
     cells:=fun U b o x V Z M hr L j c g=>by
      obtain⟨Y,i,e2,_⟩:=C U V Z M L;exact h.cells U b o x Y Z M hr i j c (e2 j c g)
     imm:=fun U b o x V Z M hr L j g hjl=>by
      obtain⟨Y,i,_,e3,_⟩:=C U V Z M L;exact h.imm U b o x Y Z M hr i j g ac
     ext:=fun U b o x V Z M hr L=>by
      obtain⟨Y,i,_,e3,e4⟩:=C U V Z M L;have:=h.ext U b o x Y Z M hr i;rw[e4];omega
     fits:=fun U b o x V Z M hr L=>by
      obtain⟨Y,i,_,e3,e4⟩:=C U V Z M L;have:=h.fits U b o x Y Z M hr i;omega
     room:=fun U b o x V Z M hr L j g hjl=>by
      obtain⟨Y,i,_,_,e4⟩:=C U V Z M L;exact h.room U b o x Y Z M hr i j g (by rw[<-e4];exact hjl)
     apart:=fun r1 b1 o1 x1 cs1 K J r2 b2 o2 x2 cs2 I tip2 hr1 hc1 hr2 O hne j j' q1 q2 q3 q4=>by
      obtain⟨cs01,i,_,_,e14⟩:=C r1 cs1 K J hc1;obtain⟨cs02,e2,_,_,e24⟩:=C r2 cs2 I tip2 O;exact h.apart r1 b1 o1 x1 cs01 K J r2 b2 o2 x2 cs02 I tip2 hr1 i hr2 e2 hne j j' q1 (by rw[<-e14];exact q2) q3 (by rw[<-e24];exact q4)
     map:=fun U b o x es hr L=>by
      rcases hgs U _ L with⟨_,e⟩|⟨_,e⟩
      .simp at e
      .exact h.map U b o x es hr e
     mapApart:=fun r1 b1 o1 x1 es r2 b2 o2 x2 hr1 hc1 hr2 O hne=>by
      rcases hgs r1 _ hc1 with⟨_,e⟩|⟨_,e⟩
      .simp at e
      .refine h.mapApart r1 b1 o1 x1 es r2 b2 o2 x2 hr1 e hr2 ?_ hne;rw[aC]at O;split at O
       .rename_i e2;rw[e2,hg];rfl
       .exact O
     frz:=h.frz
     val:=h.val
     sym:=h.sym}
   .exact jY h
  .exact jY h
 .exact jY h
theorem Mn(h:R B H w G){keep:Bool}{t u ty:TypeId}{sv x c:AV}{V xv:Value}(I:VR G sv V)(hx:VR G x xv)(O:zcg P keep H t u sv x=some (c,H')):
 ∃v w' G',(Builtin.append_ #[t,u] ty #[V,xv]).run P w=.ok v w'/\VR G' c v/\Step B H.next G w H' w' G':=by
 unfold zcg at O;split at O
 .rename_i e hd;split at O
  .rename_i s b z hs hb hz;split at O
   .rename_i zdS hst C;obtain⟨du,hu,hni⟩:=Eo hst;obtain⟨nv,h1,h2,h3,h4⟩:=AW (P:=P) h hx C;have hnv:nv=[]:=by rw[uP]at h2;exact List.length_eq_zero_iff.1 h2
    subst hnv;have key:∀a len cap,V=.slice a len cap->len<=cap->(Builtin.append_ #[t,u] ty #[V,xv]).run P w=.ok V w:=fun a len cap e hlc=>by
     subst e;rw[El hd hu hni hs (n:=0) ac (h3 w) (h4 w (fun _=>rfl))];cases a<;>simp[storeCells]
    split at O
    .simp only[ce]at O;obtain⟨rfl,rfl⟩:=O;refine⟨V,w,G,?_,I,jY h⟩;cases I with
     |sl hr hl hc=>exact key _ _ _ rfl hl
    .simp only[ce]at O;obtain⟨rfl,rfl⟩:=O;refine⟨V,w,G,?_,I,jY h⟩;cases I with
     |lst vs hz hF hv hc=>exact key _ _ _ rfl hc
     |lst0 a cap=>exact key _ _ _ rfl (dg _)
    .simp only[ce]at O;obtain⟨rfl,rfl⟩:=O;refine⟨V,w,G,?_,I,jY h⟩;cases I with
     |nilS=>exact key _ _ _ rfl (aA _)
    .simp at O
   .rename_i n M hnz hst C;obtain⟨du,hu,hni⟩:=Eo hst;obtain⟨nv,h1,h2,h3,h4⟩:=AW (P:=P) h hx C;have hn0:n≠0:=fun e=>by subst e;exact hnz rfl
    have hnl:M.length=n*s:=by rw[h1.1,h2]
    obtain⟨zv,hzr,hzv⟩:=uL hz;split at O
    .rename_i hcond;obtain⟨hone,hzl⟩:=hcond;have hzs:zv.cells.size=s:=by have:=(hzv G).1;rw[hzl]at this;simpa using this.symm
     have ht:=Mm h keep s sv
     suffices hgoal:∃v w' G',(Builtin.append_ #[t,u] ty #[V,xv]).run P w=.ok v w'/\VR G' c v/\Step B (gR keep H s sv).next G w H' w' G' by
      obtain⟨v,w',G',g1,g2,g3⟩:=hgoal;exact⟨v,w',G',g1,g2,ht.trans g3⟩
     replace h:=ht.r;clear ht C;generalize gR keep H s sv=H at O h⊢;unfold zdB at O;split at O
     ·-- onto nil
      split at O
      .rename_i hroom;simp only[ce]at O;obtain⟨rfl,rfl⟩:=O;cases I;have U:=Em (P:=P) (w:=w) (ty:=ty) hd hu hni hs hb hzr (a:=none) (len:=0) (cap:=0) (n:=n) (ov:=[]) ac (by simpa using hroom.1) (by simpa using hroom.2) (h3 w) (h4 w.drew (fun _=>rfl)) (by simp[Builtin.firstCells]);have i:=xo (h.heap (w':=w.drew) rfl) h1 (Builtin.zeroCells zv.cells (grownCap w (0+n) 0 e-(0+n))).toList e;have hge:=grownCap_ge w (0+n) 0 e;refine⟨_,_,_,U,?_,i.of_drew⟩;rw[b4]at hge⊢;refine .sl (zdK _ _ _) hge ?_;rw[Ek,hzs,h2];have:grownCap w n 0 e*s=n*s+(grownCap w n 0 e-n)*s:=AM;simp;omega
      .simp at O
     ·-- onto a row of its own
      rename_i r off len zz;split at O
      .rename_i cs imm hg;split at O
       .rename_i hcond2;obtain⟨hr1,hr2,hend,rfl,himm⟩:=hcond2;cases I with
        |sl hr hlc hcx=>
         rename_i L K x0 cap;have hHolds:=h.cells _ _ _ _ _ _ _ hr hg;have hex:=h.ext _ _ _ _ _ _ _ hr hg;simp only[zcp]at hex;have hoff:off<=cs.length:=ac;obtain⟨ov,o1,o2,o3⟩:=hHolds.first (P:=P) (off:=off) (s:=zz) (len:=len) hend (cap:=cap)
         have J:r≠H.next:=fun e=>by have:=h.dom _ _ hr;omega
         by_cases m:len+n<=cap
         ·-- in its room
          have U:=El (P:=P) (w:=w) (ty:=ty) hd hu hni hs (a:=some ⟨L,K+off,none⟩) m (h3 w) (h4 w (fun _=>rfl));simp only[]at U;rw[j0,i7,hend]at U;have hcap:(len+n)*zz<=cap*zz:=uO _ m;rw[mZ]at hcap;cases keep with
          |false=>
           simp only[cK,de,ce]at O;obtain⟨rfl,rfl⟩:=O;obtain⟨w',hw,Y⟩:=AH P hr cs.length M nv cs 0 H w h hg h1 (h1.oneCell hone) ac ac uG aw;rw[hw]at U;simp only[ee]at U;rw[pG,DZ]at Y;have o:=D0 Y.r (r:=r) (cs:=cs++M) (imm:=imm) hr gE (off:=off) cc;refine⟨_,w',_,U,?_,(Y.trans o).congr rfl fun k _=>?_⟩
           .refine .sl (zdK _ _ _) m ?_;omega
           .rw[zaY,zaY,zcW,zcW,aC,AT hoff];simp only[zdN,zbl];by_cases e1:k=H.next
            .simp only[e1,cZ]
            .by_cases e2:k=r
             .simp only[e2,cZ]
             .simp only[e1,e2,de]
          |true=>
           simp only[cZ,ce]at O;obtain⟨rfl,rfl⟩:=O;have Z:=uK h hr hg (n:=cs.length) himm (aA _) true (fun _=>rfl);obtain⟨w',hw,Y⟩:=AH P (G:=G.ice w L K cs.length) (r:=r) (imm:=cs.length) (tip:=true) hr cs.length M nv cs 0 _ w Z.r gE (h1.mono Z.ext) (h1.oneCell hone) ac ac uG aw;rw[hw]at U;simp only[ee]at U;rw[pG,DZ]at Y;have hgr:((H.set r (.cells cs cs.length true)).set r (.cells (cs++M) cs.length true)).get r=some (.cells (cs++M) cs.length true):=gE;have o:=D0 Y.r (r:=r) (cs:=cs++M) (imm:=cs.length) hr hgr (off:=off) cc;have hmid:=(Z.trans Y).trans o;have hrr:((G.ice w L K cs.length).add H.next (L,K+off,x0-off)).β r=some (L,K,x0):=by
            simp only[Gh.add];rw[af J];exact hr
           have hnoMap:∀r1 b1 o1 x1 es,((G.ice w L K cs.length).add H.next (L,K+off,x0-off)).β r1=some (b1,o1,x1) ->
            ((((H.set r (.cells cs cs.length true)).set r (.cells (cs++M) cs.length true)).kill r).alloc (.cells ((cs++M).drop off) (cs.length-off) true)).get r1=some (.map es)->b1≠L:=fun r1 b1 o1 x1 es g1 g2=>by
            rw[zaY,zcW,aC,aC]at g2;simp only[zdN,zbl]at g2;by_cases hne:r1=H.next
            .simp[hne]at g2
            .by_cases hne2:r1=r
             .simp[hne2]at g2
             .simp only[hne,hne2,de]at g2;have g1':G.β r1=some (b1,o1,x1):=by simp only[Gh.add]at g1;rw[af hne]at g1;exact g1
              exact h.mapApart r1 b1 o1 x1 es r L K x0 g1' g2 hr (by rw[hg];rfl) hne2
           have hHolds':hO ((G.ice w L K cs.length).add H.next (L,K+off,x0-off)) w' L K cs:=fun j c hj=>by
            have hjl:j<cs.length:=(ej.1 hj).1;have h5:=Y.r.cells r L K x0 _ _ _ hr hgr j c (by rw[lZ hjl];exact hj);obtain⟨v,q1,q2⟩:=h5;exact⟨v,q1,q2.mono o.ext⟩
           have hFF:∀j,j<cs.length->∃v,((G.ice w L K cs.length).add H.next (L,K+off,x0-off)).F L (K+j)=some v:=fun j hj=>
            Z.r.imm r L K x0 cs cs.length true hr gE j hj hj
           have hrev:=LW hmid.r hrr (h.fits _ _ _ _ _ _ _ hr hg) hHolds' hFF hnoMap;refine⟨_,w',_,U,?_,(hmid.trans hrev).congr rfl fun k _=>?_⟩
           .refine .sl (zdK _ _ _) m ?_;omega
           .rw[aC,zaY,zaY,zcW,aC,aC,aC,AT hoff];simp only[zdN,zbl];have:cs.length-off=len*zz:=ac;rw[this];by_cases e1:k=r
            .subst e1;simp only[J,cZ,de]
            .simp only[e1,de]
         ·-- a M row
          have hfit':cap<len+n:=ac;have U:=Em (P:=P) (w:=w) (ty:=ty) hd hu hni hs hb hzr (a:=some ⟨L,K+off,none⟩) hfit' hr1 hr2 (h3 w) (h4 w.drew (fun _=>rfl)) (o3 w.drew (fun _=>rfl));have hge:=grownCap_ge w (len+n) cap e;have hlen2:(ov++nv).length=(len+n)*zz:=by rw[fy,o2,h2,mZ]
          have hcapx:grownCap w (len+n) cap e*zz=(ov++nv).length+(Builtin.zeroCells zv.cells (grownCap w (len+n) cap e-(len+n))).toList.length:=by
           rw[Ek,hzs,hlen2,<-mZ];congr 1;omega
          have i:=(xo (h.heap (w':=w.drew) rfl) (o1.append h1) (Builtin.zeroCells zv.cells (grownCap w (len+n) cap e-(len+n))).toList e).of_drew;have hnn:∀(X:HB) (k:Nat),k≠H.next->(H.alloc X).get k=H.get k:=fun X k hk=>by rw[zaY,af hk]
          have g:∀p,(G.add H.next p).β H.next=some p:=fun p=>zdK _ _ _
          have hlenX:(cs.drop off++M).length=(len+n)*zz:=by rw[fy,js,hnl,mZ];omega
          cases keep with
          |false=>
           simp only[cK,de,ce]at O;obtain⟨rfl,rfl⟩:=O;have hk:=i.r.kill r;have hgx:((H.alloc (.cells (cs.drop off++M) 0 true)).kill r).get H.next=some (.cells (cs.drop off++M) 0 true):=by
            rw[zcW,af (Ne.symm J),zaY,aj rfl]
           have Z:=uK hk (g _) hgx (n:=imm-off) (dg _) (by rw[hlenX,mZ];omega) true (fun _=>rfl);have hst2:Step B H.next G w _ _ _:=⟨hk,i.ext,i.fr,i.new,i.low,i.mono,i.icy⟩
           refine⟨_,_,_,U,?_,(hst2.trans Z).congr rfl fun k _=>?_⟩
           .exact .sl (g _) hge ac
           .rw[aC,zaY,zcW,zcW,zaY];simp only[zdN];by_cases e1:k=H.next
            .simp only[e1,cZ]
            .simp only[e1,de]
          |true=>
           simp only[cZ,ce]at O;obtain⟨rfl,rfl⟩:=O;have hgx:(H.alloc (.cells (cs.drop off++M) 0 true)).get H.next=some (.cells (cs.drop off++M) 0 true):=lY
           have Z:=uK i.r (g _) hgx (n:=len*zz) (dg _) (by rw[hlenX,mZ];omega) true (fun _=>rfl);have hgr:((H.alloc (.cells (cs.drop off++M) 0 true)).set H.next (.cells (cs.drop off++M) (len*zz) true)).get r=some (.cells cs imm true):=by
            rw[aC,af J,hnn _ _ J];exact hg
           have hice2:=uK Z.r (r:=r) (by
            show(G.add H.next _).β r=_;simp only[Gh.add];rw[af J];exact hr) hgr (n:=cs.length) himm (aA _) false aw
           refine⟨_,_,_,U,?_,((i.trans Z).trans hice2).congr rfl fun k _=>?_⟩
           .exact .sl (g _) hge ac
           .rw[aC,aC,zaY,zaY,aC];simp only[zbl];by_cases e1:k=H.next
            .have e3:¬H.next=r:=fun e=>J e.symm
             simp only[e1,e3,cZ,de]
            .simp only[e1,de]
       .simp at O
      .simp at O
     .simp at O
    .simp at O
   .simp at O
  .simp at O
 .simp at O
end
section
variable {P:Program} {B:Bs} {G:Gh} {H H':Hp} {w:World}
theorem Mo(U:ByteArray):U.data.toList.length=U.size:=Ec
theorem Ep(h:R B H w G){m:AV}{mv:Value}{j:List (AV×AV)}(V:VR G m mv)(U:rF H m=some j):
 (mv=.map none/\j=[])\/∃r b o x ms Y,m=.map r/\mv=.map (some b)/\G.β r=some (b,o,x)/\H.get r=some (.map j)/\w.heap[b]?=some (.map ms Y)/\pC G j ms.toList:=by
 unfold rF at U;split at U
 .simp only[az]at U;subst U;cases V;exact .inl ⟨rfl,rfl⟩
 .rename_i r;split at U
  .rename_i Z C;simp only[az]at U;subst U;cases V with
   |map hr=>
    rename_i b o x;obtain⟨ms,Y,i,g⟩:=h.map r b o x _ hr C;exact .inr ⟨r,b,o,x,ms,Y,rfl,rfl,hr,C,i,g⟩
  .simp at U
 .simp at U
theorem uS{b:Nat}{ms:Array MapEntry}{Y:Nat}(h:w.heap[b]?=some (.map ms Y)):(getObj b).run P w=.ok (.map ms Y) w:=by
 simp[getObj,Sem.run,h]
theorem Mp(h:R B H w G){t ty:TypeId}{x c:AV}{j:Value}(I:VR G x j)(K:zbO P H t x=some c):∃v,(Builtin.len_ #[t] ty #[j]).run P w=.ok v w/\VR G c v:=by
 unfold zbO at K;split at K
 .rename_i hd;split at K
  .simp only[az]at K;subst K;cases I with
   |str M _ J=>
    subst J;refine⟨_,?_,.int _ _⟩;rw[Mo];simp[Builtin.len_,zce hd,goInt]
  .simp at K
 .rename_i e hd;split at K
  .simp only[az]at K;subst K;cases I;exact⟨_,uM,.int _ _⟩
  .simp only[az]at K;subst K;cases I
   .exact⟨_,uM,.int _ _⟩
   .exact⟨_,uM,.int _ _⟩
  .simp only[az]at K;subst K;cases I;exact⟨_,uM,.int _ _⟩
  .simp at K
 .rename_i n e hd;simp only[az]at K;subst K;refine⟨.int .i64 n,?_,.int _ _⟩;simp only[Builtin.len_];simp[zce hd,goInt]
 .rename_i g e hd;split at K
  .rename_i V U;simp only[az]at K;subst K;rcases Ep h I U with⟨rfl,rfl⟩|⟨r,b,o,i,ms,Y,rfl,rfl,hr,C,O,Z⟩
   .exact⟨_,uM,.int _ _⟩
   .refine⟨.int .i64 V.length,?_,.int _ _⟩;have:ms.size=V.length:=by have:=Z.1;simpa using this.symm
    simp[Builtin.len_,zce hd,uS O,goInt,this]
  .simp at K
 .simp at K
theorem Mq{J:Bool}{x y c:AV}{j z:Value}(I:VR G x j)(o:VR G y z)(h:mm J x y=some c):∃v,((if J then Builtin.max2 else Builtin.min2) j z).run P w=.ok v w/\VR G c v:=by
 unfold mm at h;split at h
 .simp only[az]at h;subst h;cases I;cases o;cases J
  .refine⟨_,rfl,?_⟩;simp only[cK,de,oG];exact .int _ _
  .refine⟨_,rfl,?_⟩;simp only[cZ,oG];exact .int _ _
 .simp at h
theorem AY{J:Bool}:∀{M:List AV}{j:List Value}{x c:AV}{Z:Value},VR G x Z->b8 G M j->qz J x M=some c ->
 ∃v,(j.foldlM (if J then Builtin.max2 else Builtin.min2) Z).run P w=.ok v w/\VR G c v
 |[],j,x,c,Z,hx,hxs,h=>by
  simp only[qz,az]at h;subst h;have:j=[]:=by have:=hxs.1;simpa using this.symm
  subst this;exact⟨Z,rfl,hx⟩
 |y::ys,[],_,_,_,_,hxs,_=>by have:=hxs.1;simp at this
 |y::ys,yv::yvs,x,c,Z,hx,hxs,h=>by
  obtain⟨i,g⟩:=hxs.of_cons;simp only[qz]at h;split at h
  .rename_i z Y;obtain⟨U,V,O⟩:=Mq (P:=P) (w:=w) hx i Y;obtain⟨v,k1,m⟩:=AY O g h;exact⟨v,by rw[List.foldlM_cons,d8,V];exact k1,m⟩
  .simp at h
theorem AZ{t:TypeId}{d:TypeDesc}(h:lc P t=some d):P.underlying t=some d/\((∃k,d=.int k)\/d=.string\/d=.bool):=by
 unfold lc at h;split at h<;>simp only[az,reduceCtorEq]at h<;>subst h
 .rename_i k hd;exact⟨hd,.inl ⟨k,rfl⟩⟩
 .rename_i hd;exact⟨hd,.inr (.inl rfl)⟩
 .rename_i hd;exact⟨hd,.inr (.inr rfl)⟩
theorem A0{d:TypeDesc}{x y:AV}{j z:Value}{r:Bool}(I:VR G x j)(o:VR G y z)(h:mL d x y=some r):Instr.sameNow d j z=some r:=by
 unfold mL at h;split at h
 .split at h
  .cases I;cases o;exact h
  .simp at h
 .split at h
  .cases I with
   |str a _ ha=>cases o with
    |str b _ Z=>
     subst ha Z;simp only[az]at h;subst h;simp only[Instr.sameNow,az];show(a.data == b.data)=(a.data.toList == b.data.toList);rw[AF];simp only[mW,Array.toList_inj]
  .simp at h
 .split at h
  .cases I;cases o;exact h
  .simp at h
 .simp at h
theorem A1{d:TypeDesc}{k:AV}{kv:Value}(Y:VR G k kv):∀{Z:List (AV×AV)}{ms:List MapEntry}{i:Nat},pC G Z ms ->
 (zcx d k Z i=some none->Instr.findNow d kv ms i=some none) /\
 (∀j v,zcx d k Z i=some (some (j,v))->∃k' m,Z[j-i]?=some (k',v)/\ms[j-i]?=some m/\i<=j/\mL d k k'=some true/\Instr.findNow d kv ms i=some (some (j,m.val)))
 |[],ms,i,he=>by
  have:ms=[]:=by have:=he.1;simpa using this.symm
  subst this;exact⟨fun _=>rfl,fun j v h=>by simp[zcx]at h⟩
 |e::Z,[],i,he=>by have:=he.1;simp at this
 |(k',v')::Z,m::ms,i,he=>by
  obtain⟨V,h2⟩:=he.2 0 (k',v') m rfl rfl;have U:pC G Z ms:=⟨by simpa using he.1,fun j a b ha o=>he.2 (j+1) a b (by simpa using ha) (by simpa using o)⟩;obtain⟨M,g⟩:=A1 (d:=d) Y (i:=i+1) U;constructor
  .intro h;simp only[zcx]at h;split at h
   .simp at h
   .rename_i hf;have:=A0 Y V hf;simp only[Instr.findNow,this];exact M h
   .simp at h
  .intro j v h;simp only[zcx]at h;split at h
   .rename_i hf;simp only[ce]at h;obtain⟨rfl,rfl⟩:=h;have:=A0 Y V hf;exact⟨k',m,aw,aw,aA _,hf,by simp only[Instr.findNow,this]⟩
   .rename_i hf;have:=A0 Y V hf;obtain⟨L,K,J,I,g3,C,z⟩:=g j v h;have O:j-i=(j-(i+1))+1:=ac;refine⟨L,K,by rw[O];simpa using J,by rw[O];simpa using I,ac,C,?_⟩;simp only[Instr.findNow,this];exact z
   .simp at h
theorem Mr(n:Nat){g:TypeId}{d:TypeDesc}(hd:lc P g=some d)(e:Bool)(kv:Value):(Instr.checkKey e (n+1) g kv).run P w=.ok () w:=by
 obtain⟨i,Z⟩:=AZ hd;simp only[Instr.checkKey,d8,zce i,ee];rcases Z with⟨k,rfl⟩|rfl|rfl<;>rfl
theorem uT{g:TypeId}{d:TypeDesc}(hd:lc P g=some d)(e:Bool)(kv:Value):(Instr.checkKey e 10000 g kv).run P w=.ok () w:=Mr 9999 hd e kv
theorem uU{g:TypeId}{d:TypeDesc}(hd:P.underlying g=some d){kv:Value}{ms:List MapEntry}{r:Option (Nat×Value)}(h:Instr.findNow d kv ms 0=some r):(Instr.findKey g kv ms).run P w=.ok r w:=by
 simp[Instr.findKey,zce hd,h]
theorem Ms{t g e:TypeId}{d:TypeDesc}(hd:P.underlying t=some (.map g e))(O:lc P g=some d){mv kv:Value}{ok:Bool}{ms:Array MapEntry}
 (K:(mv=.map none/\ms=#[])\/∃b Y,mv=.map (some b)/\w.heap[b]?=some (.map ms Y)) :
 (∀j v,Instr.findNow d kv ms.toList 0=some (some (j,v))->(Instr.lookup t mv kv ok).run P w=.ok (if ok then .tuple #[v,.bool true]else v) w) /\
 (∀U,(zeroValue e).run P w=.ok U w->Instr.findNow d kv ms.toList 0=some none->(Instr.lookup t mv kv ok).run P w=.ok (if ok then .tuple #[U,.bool false]else U) w):=by
 have V:=(AZ O).1;rcases K with⟨rfl,rfl⟩|⟨b,Y,rfl,L⟩
 .refine⟨fun j v hf=>by simp[Instr.findNow]at hf,fun U M hf=>?_⟩;have Z:=uU (P:=P) (w:=w) V hf;simp only[Instr.lookup,d8,zce hd,ee,jt,uT O,Z,M]
 .refine⟨fun j v hf=>?_,fun U M hf=>?_⟩
  .have Z:=uU (P:=P) (w:=w) V hf;simp only[Instr.lookup,d8,zce hd,ee,uS L,jt,uT O,Z]
  .have Z:=uU (P:=P) (w:=w) V hf;simp only[Instr.lookup,d8,zce hd,ee,uS L,jt,uT O,Z,M]
theorem Mt(h:R B H w G){t:TypeId}{m k c:AV}{mv kv:Value}{ok:Bool}(J:VR G m mv)(C:VR G k kv)(K:jd P H t m k ok=some c):
 ∃v,(Instr.lookup t mv kv ok).run P w=.ok v w/\VR G c v:=by
 unfold jd at K;split at K
 .rename_i kt e hd;split at K
  .rename_i z I V Z;obtain⟨ms,U,O⟩:∃ms:Array MapEntry,((mv=.map none/\ms=#[])\/∃b Y,mv=.map (some b)/\w.heap[b]?=some (.map ms Y))/\pC G z ms.toList:=by
    rcases Ep h J V with⟨rfl,rfl⟩|⟨r,b,o,xx,ms,Y,rfl,rfl,hr,hg,hw,he⟩
    .exact⟨#[],.inl ⟨rfl,rfl⟩,rfl,aw⟩
    .exact⟨ms,.inr ⟨b,Y,rfl,hw⟩,he⟩
   obtain⟨g,f2⟩:=A1 (d:=I) C (i:=0) O;obtain⟨r1,r2⟩:=Ms (kv:=kv) (ok:=ok) hd Z U;split at K
   .rename_i j v hf;simp only[az]at K;subst K;obtain⟨k',m',g1,g2,_,_,g5⟩:=f2 j v hf;have M:=(O.2 _ _ _ g1 g2).2;refine⟨_,r1 _ _ g5,?_⟩;cases ok
    .exact M
    .exact .tup (vs:=[m'.val,.bool true]) rfl (mX M (mX (.bool true) (nK _))).2
   .rename_i hf;split at K
    .rename_i v M;simp only[az]at K;subst K;obtain⟨zv,z1,L⟩:=LX M;refine⟨_,r2 _ (z1 w) (g hf),?_⟩;cases ok
     .exact L G
     .exact .tup (vs:=[zv,.bool false]) rfl (mX (L G) (mX (.bool false) (nK _))).2
    .simp at K
   .simp at K
  .simp at K
 .simp at K
end
section
variable {P:Program} {B:Bs} {G:Gh} {H H':Hp} {w:World}
theorem Er(h:R B H w G){r b o x:Nat}{es J:List (AV×AV)}{ms':Array MapEntry}{clock':Nat}(hr:G.β r=some (b,o,x))(hg:H.get r=some (.map es))(he:pC G J ms'.toList):
 Step B H.next G w (H.set r (.map J)) {w with heap:=w.heap.setIfInBounds b (.map ms' clock') } G:=by
 obtain⟨ms,clock,hw,_⟩:=h.map r b o x es hr hg;have hb:b<w.heap.size:=(h.lt r b o x hr).2
 let w':World:={w with heap:=w.heap.setIfInBounds b (.map ms' clock') }
 have z:∀k,k≠b->w'.heap[k]?=w.heap[k]?:=fun k U=>by
  show(w.heap.setIfInBounds b _)[k]?=_;rw[tj,af (Ne.symm U)]
 have hheapb:w'.heap[b]?=some (.map ms' clock'):=by
  show(w.heap.setIfInBounds b _)[b]?=_;simp[hb]
 have m:∀Y g v,w.cell? ⟨Y,g,none⟩=some v->Y≠b:=fun Y g v hc e=>by
  subst e;unfold World.cell? at hc;rw[hw]at hc;simp at hc
 have L:∀Y g v,w.cell? ⟨Y,g,none⟩=some v->w'.cell? ⟨Y,g,none⟩=some v:=fun Y g v hc=>by
  rw[World.cell?_of_block (w:=w) (z Y (m Y g v hc))];exact hc
 have O:∀k,k≠r->(H.set r (.map J)).get k=H.get k:=fun k U=>by rw[aC,af U]
 have Z:(H.set r (.map J)).get r=some (.map J):=gE;refine⟨?_,tk _,⟨rfl,rfl,rfl,aw,fun k U hn=>z k (fun e=>hn r b o x hr e.symm)⟩,rS _ _,fun _ _ h=>.inl h,aA _,fun _ _ _ h=>.inl h⟩;exact{
  base:=by have:=h.base;simpa using this
  dom:=h.dom
  lt:=fun r b o x hr=>by have:=h.lt r b o x hr;simpa using this
  cells:=fun k Y g K I imm V U hc=>by
   by_cases e:k=r
   .subst e;rw[Z]at hc;simp at hc
   .rw[O k e]at hc;intro j c hj;obtain⟨v,h1,h2⟩:=h.cells k Y g K I imm V U hc j c hj;exact⟨v,L _ _ _ h1,h2⟩
  imm:=fun k Y g K I imm V U hc=>by
   by_cases e:k=r
   .subst e;rw[Z]at hc;simp at hc
   .rw[O k e]at hc;exact h.imm k Y g K I imm V U hc
  ext:=fun k Y g K I imm V U hc=>by
   by_cases e:k=r
   .subst e;rw[Z]at hc;simp at hc
   .rw[O k e]at hc;exact h.ext k Y g K I imm V U hc
  fits:=fun k Y g K I imm V U hc=>by
   by_cases e:k=r
   .subst e;rw[Z]at hc;simp at hc
   .rw[O k e]at hc;exact h.fits k Y g K I imm V U hc
  room:=fun k Y g K I imm V U hc j hj hjl=>by
   by_cases e:k=r
   .subst e;rw[Z]at hc;simp at hc
   .rw[O k e]at hc;obtain⟨⟨v,h1⟩,h2,h3⟩:=h.room k Y g K I imm V U hc j hj hjl;refine⟨⟨v,L _ _ _ h1⟩,?_,h3⟩;rw[World.frozen?_of_block (w:=w) (z Y (m _ _ _ h1))];exact h2
  apart:=fun k1 b1 o1 x1 cs1 imm1 tip1 C b2 o2 x2 cs2 imm2 tip2 i M hk2 hc2=>by
   by_cases e1:k1=r
   .subst e1;rw[Z]at M;simp at M
   .by_cases e2:C=r
    .subst e2;rw[Z]at hc2;simp at hc2
    .rw[O k1 e1]at M;rw[O C e2]at hc2;exact h.apart k1 b1 o1 x1 cs1 imm1 tip1 C b2 o2 x2 cs2 imm2 tip2 i M hk2 hc2
  map:=fun k Y g K es1 U hc=>by
   by_cases e:k=r
   .subst e;have hk':=U;rw[hr]at hk';simp only[ce]at hk';obtain⟨rfl,rfl,rfl⟩:=hk';rw[Z]at hc;simp only[az,HB.map.injEq]at hc;subst hc;exact⟨ms',clock',hheapb,he⟩
   .rw[O k e]at hc;obtain⟨ms1,clock1,h1,h2⟩:=h.map k Y g K es1 U hc;refine⟨ms1,clock1,?_,h2⟩;rw[z Y (fun eb=>h.mapApart k Y g K es1 r b o x U hc hr (by rw[hg];rfl) e eb)];exact h1
  mapApart:=fun k1 b1 o1 x1 es1 C b2 o2 x2 i M hk2 hs hne=>by
   have hs':(H.get C).isSome:=by
    by_cases e2:C=r
    .subst e2;rw[hg];rfl
    .rw[O C e2]at hs;exact hs
   by_cases e1:k1=r
   .subst e1;exact h.mapApart k1 b1 o1 x1 es C b2 o2 x2 i hg hk2 hs' hne
   .rw[O k1 e1]at M;exact h.mapApart k1 b1 o1 x1 es1 C b2 o2 x2 i M hk2 hs' hne
  frz:=fun Y g v hf=>L _ _ _ (h.frz Y g v hf)
  val:=h.val
  sym:=h.sym}
theorem Es{b:Nat}{ms ms':Array MapEntry}{Y clock':Nat}(h:w.heap[b]?=some (.map ms Y)):
 (setObj b (.map ms' clock')).run P w=.ok () {w with heap:=w.heap.setIfInBounds b (.map ms' clock') }:=by
 simp[setObj,Sem.run,h]
theorem Mu(n:Nat){d:TypeDesc}{x y:AV}{j z:Value}(I:VR G x j)(o:VR G y z)(h:mL d x y=some true):Instr.sameBits n z j=true:=by
 unfold mL at h;split at h
 .split at h
  .split at h
   .rename_i e;subst e;cases I;cases o;simp only[az,mW]at h;subst h;cases n<;>simp[Instr.sameBits]
   .simp at h
  .simp at h
 .split at h
  .cases I with
   |str a _ ha=>cases o with
    |str b _ Z=>
     subst ha Z;simp only[az,mW]at h;have K:(b == a)=true:=by
      show(b.data == a.data)=true;simp only[mW];exact(mV h).symm
     cases n<;>simp[Instr.sameBits,K]
  .simp at h
 .split at h
  .cases I;cases o;simp only[az,mW]at h;subst h;cases n<;>simp[Instr.sameBits]
  .simp at h
 .simp at h
theorem Mv{old M:Value}(h:Instr.sameBits 10000 old M=true):(Instr.keyThatStays old M).run P w=.ok M w:=by
 unfold Instr.keyThatStays;rw[aj h];rfl
theorem Mw(h:R B H w G){t:TypeId}{m k v:AV}{mv kv vv:Value}(hm:VR G m mv)(C:VR G k kv)(hv:VR G v vv)(J:zdu P H t m k v=some H'):
 ∃w',(Instr.mapUpdate t mv kv vv).run P w=.ok () w'/\Step B H.next G w H' w' G:=by
 unfold zdu at J;split at J
 .rename_i kt e hd;split at J
  .rename_i r I Z;split at J
   .rename_i es hg;cases hm with
    |map hr=>
     rename_i b o x;obtain⟨ms,Y,z,O⟩:=h.map r b o x es hr hg;obtain⟨f1,f2⟩:=A1 (d:=I) C (i:=0) O;have M:=(AZ Z).1;split at J
     .rename_i j v0 hf;simp only[az]at J;subst J;obtain⟨k',m',g1,g,_,g4,g5⟩:=f2 j v0 hf;simp only[xw]at g1 g;have hjl:j<ms.size:=by have:=(ej.1 g).1;simpa using this
      have L:ms[j]?=some m':=rR;have V:=Mu 10000 C (O.2 j _ _ g1 g).1 g4;have U:=uU (P:=P) (w:=w) M g5;refine⟨_,?_,Er h hr hg (ms':=ms.modify j fun e=>{e with key:=kv,val:=vv}) (clock':=Y) ?_⟩
      .simp only[Instr.mapUpdate,d8,zce hd,ee,uS z,uT Z,U,L,i8,bP,Mv V,Es z]
      .refine⟨by have:=O.1;simpa using this,fun i a c ha hc=>?_⟩;rw[nM]at ha;rw[uR,Array.getElem?_modify]at hc;by_cases e:j=i
       .subst e;rw[aj rfl]at hc;rw[aj rfl]at ha;split at ha
        .simp only[az]at ha;subst ha;rw[L]at hc;simp only[i8,az]at hc;subst hc;exact⟨C,hv⟩
        .simp at ha
       .rw[af e]at ha hc;exact O.2 i a c ha xi
     .rename_i hf;simp only[az]at J;subst J;have U:=uU (P:=P) (w:=w) M (f1 hf);refine⟨_,?_,Er h hr hg (ms':=ms.push {key:=kv,val:=vv,born:=Y}) (clock':=Y+1) ?_⟩
      .simp only[Instr.mapUpdate,d8,zce hd,ee,uS z,uT Z,U,Es z]
      .refine⟨by have:=O.1;simpa using this,fun i a c ha hc=>?_⟩;rw[Array.toList_push]at hc;have hl:=O.1;by_cases hi:i<es.length
       .rw[lZ hi]at ha;rw[lZ ac]at hc;exact O.2 i a c ha hc
       .rw[mS ac]at ha;rw[mS ac]at hc;rw[<-hl]at hc;cases K:i-es.length with
        |zero=>
         rw[K]at ha hc;simp at ha hc;subst ha hc;exact⟨C,hv⟩
        |succ n=>rw[K]at ha;simp at ha
     .simp at J
   .simp at J
  .simp at J
 .simp at J
theorem Et:∀{Z:List AV}{bs:List UInt8}{vs:List Value},rI Z=some bs->b8 G Z vs->∃U:List Int,vs=U.map (Value.int .u8)/\bs=U.map fun n=>UInt8.ofNat n.toNat
 |[],bs,vs,h,hv=>by
  simp only[rI,az]at h;subst h;have:vs=[]:=by have:=hv.1;simpa using this.symm
  subst this;exact⟨[],rfl,rfl⟩
 |c::Z,bs,[],h,hv=>by have:=hv.1;simp at this
 |c::Z,bs,v::vs,h,hv=>by
  obtain⟨i,g⟩:=hv.of_cons;unfold rI at h;split at h
  .rename_i e;simp at e
  .rename_i n V e;simp only[ez]at e;obtain⟨rfl,rfl⟩:=e;split at h
   .rename_i M o;simp only[az]at h;subst h;obtain⟨U,rfl,rfl⟩:=Et o g;cases i;exact⟨n::U,rfl,rfl⟩
   .simp at h
  .simp at h
theorem Mx(U:List Int):∀s:ByteArray,(U.foldl (fun r n=>r.push (UInt8.ofNat n.toNat)) s).data.toList=s.data.toList++U.map fun n=>UInt8.ofNat n.toNat:=by
 induction U with
 |nil=>intro s;simp
 |cons n U ih=>intro s;rw[List.foldl_cons,ih];simp[ByteArray.push]
theorem My(h:R B H w G){Z K:TypeId}{x c:AV}{j:Value}(I:VR G x j)(V:zdg P H Z K x=some c):∃v,(convert Z K j).run P w=.ok v w/\VR G c v:=by
 unfold zdg at V;split at V
 .rename_i e J hd;split at V
  .rename_i U;split at V
   .rename_i n cs M;split at V
    .rename_i bs Y;obtain⟨nv,z,h2,m,h4⟩:=AW (P:=P) h I M;obtain⟨O,C,rfl⟩:=Et Y z;split at V
     .simp only[az]at V;subst V;cases I with
      |sl hr hl hcx=>
       rename_i b o xx i;have g:=m w;simp[Builtin.lenOf]at g;subst g;have hf:=h4 w (fun _=>rfl);simp only[Builtin.firstCells,nN]at hf;rw[C]at hf;refine⟨_,by rw[run_convert_bytes_string w Z K e _ _ _ J U hd,run_bytesToString w _ _ _ O hf],.str _ _ ?_⟩;rw[Mx];rfl
     .simp only[az]at V;subst V;cases I;have g:=m w;simp[Builtin.lenOf]at g;have:O=[]:=by
       have e1:(O.map (Value.int .u8)).length=0:=by rw[<-C,h2,<-g]
       simpa using e1
      subst this;refine⟨.string .empty,?_,.str _ _ rfl⟩;rw[run_convert_bytes_string w Z K e _ _ _ J U hd];rfl
     .simp at V
    .simp at V
   .simp at V
  .simp at V
 .rename_i ds k hn J hd;split at V
  .simp only[az]at V;subst V;cases I;refine⟨_,?_,.int _ _⟩;simp[convert,zce J,zce hd,Conv.intToInt]
  .simp only[az]at V;subst V;cases I;rename_i k0 e0;refine⟨_,?_,.sx _ _⟩;simp[convert,zce J,zce hd,Conv.intToInt,Sx.eval]
  .simp at V
 .rename_i hn J hd;split at V
  .simp only[az]at V;subst V;have L:=I;cases I with
   |str sv _ U=>
    refine⟨.string sv,?_,L⟩;simp[convert,zce J,zce hd]
  .simp at V
 .simp at V
end
section
variable {P:Program} {B:Bs} {G:Gh} {H H':Hp} {w:World}
def rY(G:Gh)(E:au)(a:Act)(xs:Array Operand):Prop:=∀x∈xs,∀c,zaZ E x=some c->VR G c (a.eval x)
theorem xD{E:au}{a:Act}:∀{M:List Operand}{Z:List AV},(∀x∈M,∀c,zaZ E x=some c->VR G c (a.eval x))->zcY E M=some Z->b8 G Z (M.map a.eval)
 |[],Z,_,h=>by
  simp only[zcY,az]at h;subst h;exact nK G
 |x::M,Z,hk,h=>by
  simp only[zcY]at h;split at h
  .rename_i v vs Y C;simp only[az]at h;subst h;exact mX (hk x aw v Y) (xD (fun y o=>hk y (by simp[o])) C)
  .simp at h
theorem zdj{s:Sem Value}{c:AV}(h:R B H w G)(J:∃v,s.run P w=.ok v w/\VR G c v):rV P B H G w (do pure (.value (<-s))) c H:=by
 obtain⟨v,i,g⟩:=J;exact⟨.value v,w,G,v,by simp[i],.inl rfl,g,jY h⟩
theorem tw{s:Sem Value}{c:AV}(Z:∃v J C,s.run P w=.ok v J/\VR C c v/\Step B H.next G w H' J C):rV P B H G w (do pure (.value (<-s))) c H':=by
 obtain⟨v,J,C,i,g,m⟩:=Z;exact⟨.value v,J,C,v,by simp[i],.inl rfl,g,m⟩
theorem Eu{s:Sem Unit}(Z:∃J,s.run P w=.ok () J/\Step B H.next G w H' J G):rV P B H G w (do s;pure .skip) zcb H':=by
 obtain⟨J,i,g⟩:=Z;exact⟨.skip,J,G,undef,by simp[i],.inr ⟨rfl,rfl⟩,uI G,g⟩
theorem Ev{E:au}{a:Act}{x:Option Operand}{c:Option AV}(j:∀y∈x.toArray,∀c,zaZ E y=some c->VR G c (a.eval y))(h:zdb E x=some c):rX G c (x.map a.eval):=by
 unfold zdb at h;split at h
 .simp only[az]at h;subst h;exact trivial
 .rename_i y;split at h
  .rename_i v M;simp only[az]at h;subst h;exact j y aw v M
  .simp at h
theorem Mz{D:BinOp->Sx->Sx->Option Bool}{E:au}{a:Act}{o:Oper}{c:AV}(j:qC o=true)(O:rY G E a o.op.operands)(Z:cH P D E H o.op=some (c,H')):nL P G w (execOp a.eval o) Next.value c H H':=by
 obtain⟨L,J,ty,I,K,guard⟩:=o;simp only[]at Z O;cases J<;>simp only[qC,zcN,cK]at j
 case alloc t=>
  simp only[cH]at Z;unfold uq at Z;split at Z
  .rename_i z Y;simp only[ce]at Z;obtain⟨rfl,rfl⟩:=Z;obtain⟨V,g,z2⟩:=uL Y;refine nL.next ⟨.cells z 0 true,.cells (V.cells.toList++[]).toArray t,V.cells.toList.length+0,.pointer (some ⟨w.heap.size,0,none⟩),rfl,?_,.cells z V.cells.toList [] t (z2 G),fun C hG=>.ptr (off:=0) hG⟩
   simp[Instr.alloc,g,newVar,newRow]
  .simp at Z
 case box t x=>
  simp only[cH]at Z;unfold ur at Z;split at Z
  .rename_i v M;simp only[ce]at Z;obtain⟨rfl,rfl⟩:=Z;have hx:=(O x ef _ M).cells;refine nL.next ⟨.cells v.cells 0 true,.cells ((a.eval x).cells.toList++[]).toArray t,(a.eval x).cells.toList.length+0,.pointer (some ⟨w.heap.size,0,none⟩),rfl,?_,.cells v.cells _ [] t hx,fun C hG=>.ptr (off:=0) hG⟩
   simp[Instr.box,newVar,newRow]
  .simp at Z
 case buildSlice t len parts=>
  simp only[cH]at Z;unfold us at Z;split at Z
  .rename_i ps m;obtain⟨q1,q2⟩:=xB (G:=G) (a:=a) (fun p hp=>O p.2 AN) m;have:=Ei (P:=P) (w:=w) q1 q2 Z;have he:(parts.toList.map fun x=>(x.1,a.eval x.2)).toArray=parts.map fun(i,x)=>(i,a.eval x):=by
    apply mV;simp
   rw[he]at this;exact this.next
  .simp at Z
 case makeMap t r=>
  simp only[cH]at Z;unfold uw at Z;split at Z
  .simp only[ce]at Z;obtain⟨rfl,rfl⟩:=Z;refine nL.next ⟨.map [],.map #[] 0,0,.map (some w.heap.size),rfl,?_,.map,fun C hG=>.map hG⟩
   simp[Instr.makeMap]
  .simp at Z
 case makeSlice t l c'=>
  simp only[cH]at Z;unfold ux at Z;split at Z
  .rename_i lv cv U hc;exact(Ej (O l ef _ U) (O c' ef _ hc) Z).next
  .simp at Z
 case call cl=>
  simp only[cH,reduceCtorEq]at Z
theorem MA(h:R B H w G){E:au}{a:Act}{o:Oper}{c:AV}(O:rY G E a o.op.operands)(Z:cH P B.cfg.dec E H o.op=some (c,H')):rV P B H G w (execOp a.eval o) c H':=by
 obtain⟨dst,op,ty,pos,after,guard⟩:=o;simp only[]at Z O;cases op<;>simp only[cH,reduceCtorEq]at Z
 case move x=>
  obtain⟨Y,rfl⟩:=zdf Z;exact tp h rfl (O x ef _ Y)
 case assign x=>
  obtain⟨Y,rfl⟩:=zdf Z;exact tp h rfl (O x ef _ Y)
 case pick x y z=>
  unfold wX at Z;split at Z
  .rename_i hc;obtain⟨Y,rfl⟩:=zdf Z;have J:=O x ef _ hc;have:a.eval x=.bool true:=by generalize a.eval x=v at J;cases J;rfl
   exact tp h (v:=a.eval y) (by simp[execOp,asBool,this]) (O y ef _ Y)
  .rename_i hc;obtain⟨Y,rfl⟩:=zdf Z;have J:=O x ef _ hc;have:a.eval x=.bool false:=by generalize a.eval x=v at J;cases J;rfl
   exact tp h (v:=a.eval z) (by simp[execOp,asBool,this]) (O z ef _ Y)
  .simp at Z
 case alloc t=>
  unfold uq at Z;split at Z
  .rename_i z hz;simp only[ce]at Z;obtain⟨rfl,rfl⟩:=Z;obtain⟨zv,z1,z2⟩:=uL hz;have V:=xo h (z2 G) [] t;rw[aR,tt]at V;refine tw ⟨.pointer (some ⟨w.heap.size,0,none⟩),_,_,?_,?_,V⟩
   .simp[Instr.alloc,z1,newVar,newRow]
   .exact .ptr (off:=0) (zdK _ _ _)
  .simp at Z
 case box t x=>
  unfold ur at Z;split at Z
  .rename_i v M;simp only[ce]at Z;obtain⟨rfl,rfl⟩:=Z;have V:=xo h (O x ef _ M).cells [] t;rw[aR,tt]at V;refine tw ⟨.pointer (some ⟨w.heap.size,0,none⟩),_,_,?_,?_,V⟩
   .simp[Instr.box,newVar,newRow]
   .exact .ptr (off:=0) (zdK _ _ _)
  .simp at Z
 case build t parts=>
  unfold wY at Z;split at Z
  .rename_i ps L;obtain⟨Y,rfl⟩:=zdf Z;obtain⟨q1,q2⟩:=xB (G:=G) (a:=a) (fun p hp=>O p.2 AN) L;have:=Mi (P:=P) (w:=w) q1 q2 Y;have C:(parts.toList.map fun x=>(x.1,a.eval x.2)).toArray=parts.map fun(i,x)=>(i,a.eval x):=by
    apply mV;simp
   rw[C]at this;exact zdj h this
  .simp at Z
 case buildSlice t len parts=>
  unfold us at Z;split at Z
  .rename_i ps L;obtain⟨q1,q2⟩:=xB (G:=G) (a:=a) (fun p hp=>O p.2 AN) L;have:=(Ei (P:=P) (w:=w) q1 q2 Z).sim h;have C:(parts.toList.map fun x=>(x.1,a.eval x.2)).toArray=parts.map fun(i,x)=>(i,a.eval x):=by
    apply mV;simp
   rw[C]at this;exact tw this
  .simp at Z
 case load t x=>
  unfold ut at Z;split at Z
  .rename_i v M;obtain⟨Y,rfl⟩:=zdf Z;exact zdj h (D7 h (O x ef _ M) Y)
  .simp at Z
 case store t x y=>
  unfold wZ at Z;split at Z
  .rename_i av vv ha M;split at Z
   .rename_i H1 hs;simp only[ce]at Z;obtain⟨rfl,rfl⟩:=Z;exact Eu (LY h (O x ef _ ha) (O y ef _ M) hs)
   .simp at Z
  .simp at Z
 case nilCheck x=>
  unfold w1 at Z;split at Z
  .rename_i r off M;simp only[ce]at Z;obtain⟨rfl,rfl⟩:=Z;have I:=O x ef _ M;refine tp h (v:=a.eval x) ?_ I;simp only[execOp];generalize a.eval x=v at I⊢;cases I;rfl
  .rename_i cs M;simp only[ce]at Z;obtain⟨rfl,rfl⟩:=Z;have I:=O x ef _ M;refine tp h (v:=a.eval x) ?_ I;simp only[execOp];generalize a.eval x=v at I⊢;cases I;rfl
  .simp at Z
 case binOp op t x y yt=>
  unfold w5 at Z;split at Z
  .rename_i j yv I K;obtain⟨Y,rfl⟩:=zdf Z;exact zdj h (Me (by rw[h.val];exact h.sym) (O x ef _ I) (O y ef _ K) Y)
  .simp at Z
 case unOp op t x=>
  unfold w6 at Z;split at Z
  .rename_i j I;obtain⟨Y,rfl⟩:=zdf Z;exact zdj h (Mf (O x ef _ I) Y)
  .simp at Z
 case convert s d x=>
  unfold uu at Z;split at Z
  .rename_i j I;obtain⟨Y,rfl⟩:=zdf Z;exact zdj h (My h (O x ef _ I) Y)
  .simp at Z
 case makeFunc fn first captured=>
  unfold w7 at Z;split at Z
  .rename_i f vs U hvs;simp only[ce]at Z;obtain⟨rfl,rfl⟩:=Z;have hf:first=#[]:=by apply mV;simpa using U
   subst hf;have:=xD (G:=G) (a:=a) (fun x I=>O x (by simp[Op.operands];simpa using I)) hvs;refine zdj h ⟨.func (.func f) #[] (captured.map a.eval),by simp[Instr.makeFunc],?_⟩;have C:captured.map a.eval=(captured.toList.map a.eval).toArray:=AO;rw[C];exact .clo this.1 this.2
  .simp at Z
 case makeMap t r=>
  unfold uw at Z;split at Z
  .simp only[ce]at Z;obtain⟨rfl,rfl⟩:=Z;exact tw ⟨.map (some w.heap.size),_,_,by simp[Instr.makeMap],.map (zdK _ _ _),LM h⟩
  .simp at Z
 case makeSlice t l c'=>
  unfold ux at Z;split at Z
  .rename_i lv cv hl hc;exact tw ((Ej (O l ef _ hl) (O c' ef _ hc) Z).sim h)
  .simp at Z
 case slice t x lo g mx=>
  unfold uy at Z;split at Z
  .rename_i j l hh I hl hi';obtain⟨Y,rfl⟩:=zdf Z;exact zdj h (Ml h (O x ef _ I) (Ev (fun y K=>O y (by simp[Op.operands]at *;simp[K])) hl) (Ev (fun y K=>O y (by simp[Op.operands]at *;simp[K])) hi') Y)
  .simp at Z
 case fieldAddr t x f=>
  unfold w8 at Z;split at Z
  .rename_i j I;obtain⟨Y,rfl⟩:=zdf Z;exact zdj h (LZ (O x ef _ I) Y)
  .simp at Z
 case field t x f=>
  unfold w9 at Z;split at Z
  .rename_i j I;obtain⟨Y,rfl⟩:=zdf Z;exact zdj h (L0 (O x ef _ I) Y)
  .simp at Z
 case indexAddr t x i=>
  unfold xc at Z;split at Z
  .rename_i j iv I g;obtain⟨Y,rfl⟩:=zdf Z;exact zdj h (L2 (O x ef _ I) (O i ef _ g) Y)
  .simp at Z
 case index t x i=>
  unfold xd at Z;split at Z
  .rename_i j iv I g;obtain⟨Y,rfl⟩:=zdf Z;exact zdj h (L3 (O x ef _ I) (O i ef _ g) Y)
  .simp at Z
 case lookup t m k ok=>
  unfold uz at Z;split at Z
  .rename_i mv kv hm hk;obtain⟨Y,rfl⟩:=zdf Z;exact zdj h (Mt h (O m ef _ hm) (O k ef _ hk) Y)
  .simp at Z
 case mapUpdate t m k v=>
  unfold xe at Z;split at Z
  .rename_i mv kv vv hm hk M;split at Z
   .rename_i H1 hs;simp only[ce]at Z;obtain⟨rfl,rfl⟩:=Z;exact Eu (Mw h (O m ef _ hm) (O k ef _ hk) (O v ef _ M) hs)
   .simp at Z
  .simp at Z
 case extract x i=>
  unfold xf at Z;split at Z
  .rename_i j I;obtain⟨Y,rfl⟩:=zdf Z;exact zdj h (L4 (O x ef _ I) Y)
  .simp at Z
theorem MB(h:R B H w G){keep:Bool}{b:Builtin}{Z:Array TypeId}{ty:TypeId}{consts:Array Bool}{cs:List AV}{vs:List Value}{c:AV}(M:b8 G cs vs)(o:oA P keep H b Z.toList cs=some (c,H')):
 rV P B H G w (builtin b Z ty consts vs.toArray) c H':=by
 unfold oA at o;split at o
 .split at o
  .rename_i t u s x O;have U:Z=#[t,u]:=by apply mV;simpa using O
   subst U
   match vs,M with
   |[L,j],M=>
    obtain⟨i,g⟩:=M.of_cons;obtain⟨m,_⟩:=g.of_cons;exact tw (Mn h i m o)
   |[],M=>have:=M.1;simp at this
   |[_],M=>have:=M.1;simp at this
   |_::_::_::_,M=>have:=M.1;simp at this
  .simp at o
 .split at o
  .rename_i t x O;have U:Z=#[t]:=by apply mV;simpa using O
   subst U;split at o
   .rename_i v K;simp only[ce]at o;obtain⟨rfl,rfl⟩:=o
    match vs,M with
    |[j],M=>
     obtain⟨i,_⟩:=M.of_cons;exact zdj h (Mp h i K)
    |[],M=>have:=M.1;simp at this
    |_::_::_,M=>have:=M.1;simp at this
   .simp at o
  .simp at o
 .split at o
  .rename_i x Y;split at o
   .rename_i v V;simp only[ce]at o;obtain⟨rfl,rfl⟩:=o
    match vs,M with
    |[],M=>have:=M.1;simp at this
    |j::xvs,M=>
     obtain⟨i,g⟩:=M.of_cons;have:=AY (P:=P) (w:=w) i g V;exact zdj h (by simpa [Builtin.max_]using this)
   .simp at o
  .simp at o
 .split at o
  .rename_i x Y;split at o
   .rename_i v V;simp only[ce]at o;obtain⟨rfl,rfl⟩:=o
    match vs,M with
    |[],M=>have:=M.1;simp at this
    |j::xvs,M=>
     obtain⟨i,g⟩:=M.of_cons;have:=AY (P:=P) (w:=w) i g V;exact zdj h (by simpa [Builtin.min_]using this)
   .simp at o
  .simp at o
 .simp at o
end
def A2:AX->Exit
 | .normal=>.normal
 | .exit id=>.exit id
 | .ret=>.ret
def jI(B:Bs)(N L:Nat)(G:Gh)(w:World)(x:AX)(j:au)(H':Hp):Exit->Act->World->Prop:=fun e i J=>
 e=A2 x/\∃C,TR N C j i/\Step B L G w H' J C/\i.defers=[]
structure Fit (P:Program):Prop where
 name:∀(f:FuncId) (fn:Func),P.funcs[f]?=some fn->fn.body.isSome=true->(fn.name == "runtime.NumGoroutine")=false
 mixed:P.follows .mixedOrders=true
structure Snd (P:Program) (B:Bs) (n:Nat) (ih:Task->Res):Prop where
 call:∀f args H r H',ih (.call f args H)=.val r H'->∀G w vs,R B H w G->b8 G args vs ->
  (∃fn,P.funcs[f]?=some fn/\fn.body.isSome=true)/\Calls P f vs.toArray w (fun e w'=>∃v G',e=.returned v/\VR G' r v/\Step B H.next G w H' w' G')
 code:∀f N c E H x E' H',ih (.code f N c E H)=.done x E' H'->∀G w a,R B H w G->TR N G E a->a.defers=[]->Code.wp P c (jI B N H.next G w x E' H') a w
 loop:∀f N c E H x E' H',ih (.code f N (.loop c) E H)=.done x E' H'->∀G w a,R B H w G->TR N G E a->a.defers=[]->Code.rounds P c (jI B N H.next G w x E' H') n a w
theorem A3{P:Program}{c:Code}{Q o:Exit->Act->World->Prop}(h:∀e a w,Q e a w->o e a w):∀{n:Nat}{a:Act}{w:World},Code.rounds P c Q n a w->Code.rounds P c o n a w
 |0,_,_,hr=>hr
 |n+1,_,_,hr=>by
  rw[rounds_succ]at *;exact qJ (fun e a w U=>by
   cases e with
   |normal=>exact A3 h U
   |_=>exact h _ _ _ U) hr
theorem jI.trans{B:Bs}{N Z:Nat}{G C:Gh}{w w':World}{H' L:Hp}{x:AX}{V:au}(J:Step B Z G w H' w' C){e:Exit}{a:Act}{I:World}(h:jI B N H'.next C w' x V L e a I):jI B N Z G w x V L e a I:=by
 obtain⟨U,Y,i,g,m⟩:=h;exact⟨U,Y,i,J.trans g,m⟩
def xE:=@jI.trans
section
variable {P:Program} {B:Bs} {G:Gh} {H H':Hp} {w:World}
theorem A4{N:Nat}{E:au}{a:Act}(h:TR N G E a){x:Operand}{c:AV}(V:zaZ E x=some c):VR G c (a.eval x):=by
 cases x with
 |tmp t=>simp only[zaZ,az]at V;subst V;exact h.slots t
 |const v=>exact tm V
 |global g=>simp[zaZ]at V
 |func f=>simp only[zaZ,az]at V;subst V;exact .clo (vs:=[]) rfl aw
theorem TR.knows{N:Nat}{E:au}{a:Act}(h:TR N G E a)(xs:Array Operand):rY G E a xs:=fun _ _ _ hc=>A4 h hc
theorem MC{E:au}{a:Act}{d:Nat}(h:VR G (E.at d) (a.tmps.getD d undef)):(match E.at d with|.bool b=>some b |_=>none)=(match a.tmps[d]? with|some (.bool b)=>some b |_=>none):=by
 rw[iA]at h;cases hd:a.tmps[d]? with
 |none=>
  rw[hd]at h;simp only[Option.getD_none,undef]at h;generalize E.at d=c at h;cases h;rfl
 |some v=>
  rw[hd]at h;simp only[bP]at h;generalize E.at d=c at h;cases h<;>rfl
theorem MD{E:au}{a:Act}{ops:Array Oper}{j:Nat}(h:∀d,(ops[j]?).bind (·.dst)=some d->VR G (E.at d) (a.tmps.getD d undef)):xg ops.toList E j=yielded ops a.tmps j:=by
 unfold xg yielded;rw[uR];cases hd:(ops[j]?).bind (·.dst)with
 |none=>rfl
 |some d=>exact MC (h d hd)
theorem Ew{E:au}{a:Act}{ops:Array Oper}{o:Oper}(h:∀j b d,o.guard=some (j,b)->(ops[j]?).bind (·.dst)=some d->VR G (E.at d) (a.tmps.getD d undef)):zc6 ops.toList E o=Region.wanted o (yielded ops a.tmps):=by
 unfold zc6 Region.wanted;cases C:o.guard with
 |none=>rfl
 |some p=>
  obtain⟨j,b⟩:=p;simp only[];rw[MD (fun d hd=>h j b d C hd)];cases yielded ops a.tmps j with
  |none=>rfl
  |some Y=>cases b<;>cases Y <;>rfl
theorem xF(fit:Fit P){n:Nat}{ih:Task->Res}(hih:Snd P B n ih){f:FuncId}{E:au}{a:Act}{o:Oper}{c:AV}(h:R B H w G)(hE:rY G E a o.op.operands)(Z:zcd P B.cfg ih f E H o.op=.val c H')
 {K:Act->World->Prop}{Q:Exit->Act->World->Prop} (hK:∀v J C,VR C c v->Step B H.next G w H' J C->K (a.put o.dst v) J):o.wp P a w K Q:=by
 have O:∀s:Sem Next,rV P B H G w s c H'->execOp a.eval o=s->o.wp P a w K Q:=fun s hs he=>by
  obtain⟨m,J,C,v,h1,h2,h3,h4⟩:=hs;unfold Oper.wp;rw[he,h1];rcases h2 with rfl|⟨rfl,rfl⟩
  .exact hK v J C h3 h4
  .exact hK undef J C h3 h4
 unfold zcd at Z;split at Z
 .rename_i U Y;unfold qA at Z;split at Z
  .rename_i g hg;split at Z
   .rename_i k cap vs hgv L;have V:rY G E a U.operands:=by rw[Y]at hE;exact hE
    have hgr:=V g (by simp[Call.operands,hg]) _ hgv;have M:=xD (G:=G) (a:=a) (fun x hx=>V x (by simp[Call.operands,hg];exact .inr (by simpa using hx))) L;generalize hge:a.eval g=gv at hgr;cases hgr with
    |clo hl hv=>
     rename_i I;have hall:=M.append (G:=G) ⟨hl,hv⟩;obtain⟨⟨fn,hfn,i⟩,j⟩:=hih.call _ _ _ _ _ Z G w _ h hall;have hname:=fit.name _ _ hfn i;unfold Oper.wp;have hrun:(execOp a.eval o).run P w=.ok (.enter k ((U.args.toList.map a.eval)++I).toArray) w:=by
      have z:U.args.map a.eval=(U.args.toList.map a.eval).toArray:=AO;unfold execOp;rw[Y];simp only[d8,resolve,hg,hge,Deferred.ofValue,jt,ee,invoke,callFunc,run_program,hfn,hname];simp only[cK,de];have hb:fn.body.isNone=false:=by cases hb:fn.body<;>simp_all
      rw[hb];simp[z]
     rw[hrun];show Calls P k _ w _;refine j.mono fun e J hr=>?_;obtain⟨v,C,rfl,h1,h2⟩:=hr;exact hK v J C h1 h2
   .simp at Z
  .rename_i b hg;split at Z
   .rename_i vs L;split at Z
    .rename_i v H1 hb;simp only[Res.val.injEq]at Z;obtain⟨rfl,rfl⟩:=Z;have V:rY G E a U.operands:=by rw[Y]at hE;exact hE
     have M:=xD (G:=G) (a:=a) (fun x hx=>V x (by simp[Call.operands,hg];simpa using hx)) L;have hs:=MB (ty:=o.type) (consts:=U.args.map fun|.const _=>true |_=>false) h M hb;refine O _ hs ?_;have z:U.args.map a.eval=(U.args.toList.map a.eval).toArray:=AO;unfold execOp;rw[Y];simp only[resolve,hg,z];rfl
    .simp at Z
   .simp at Z
  .simp at Z
 .rename_i op hne;unfold zcP at Z;split at Z
  .rename_i v H1 ho;simp only[Res.val.injEq]at Z;obtain⟨rfl,rfl⟩:=Z;exact O _ (MA h hE ho) rfl
  .simp at Z
theorem A5(fit:Fit P){n:Nat}{ih:Task->Res}(Z:Snd P B n ih){f N:Nat}{ops:Array Oper}:∀(l:List Oper) {E E':au}{H:Hp}{x:AX}{a:Act}{w:World}{G:Gh}{Q:Exit->Act->World->Prop},iX P B.cfg ih f N ops.toList l E H=.done x E' H' ->
 R B H w G->TR N G E a->a.defers=[]->(∀e i J,jI B N H.next G w x E' H' e i J->Q e i J)->wpList P ops Q l a w
 |[],E,E',H,x,a,w,G,Q,hr,h,ht,hd,hQ=>by
  simp only[iX,Res.done.injEq]at hr;obtain⟨rfl,rfl,rfl⟩:=hr;exact hQ _ _ _ ⟨rfl,G,ht,jY h,hd⟩
 |o::l,E,E',H,x,a,w,G,Q,hr,h,ht,hd,hQ=>by
  have j:∀E H,(List.rec (motive:=fun _=>au->Hp->Res) (fun E H=>.done .normal E H)
   (fun o _ M E H=>match zc6 ops.toList E o with
     |true=>match zcd P B.cfg ih f E H o.op with
      | .val v H=>zdc M H (ei N E o.dst v)
      |_=>.fail
     |false=>zdc M H (ei N E o.dst zcb)) l E H:Res)=iX P B.cfg ih f N ops.toList l E H:=fun _ _=>rfl
  have m:iX P B.cfg ih f N ops.toList (o::l) E H=match zc6 ops.toList E o with
   |true=>match zcd P B.cfg ih f E H o.op with
    | .val v H=>zdc (iX P B.cfg ih f N ops.toList l) H (ei N E o.dst v)
    |_=>.fail
   |false=>zdc (iX P B.cfg ih f N ops.toList l) H (ei N E o.dst zcb):=rfl
  rw[m]at hr;have O:=Ew (G:=G) (E:=E) (a:=a) (ops:=ops) (o:=o) (fun _ _ d _ _=>ht.slots d);have C:∀K v,(a.put K v).defers=[]:=fun K v=>by cases K<;>exact hd
  cases I:zc6 ops.toList E o with
  |true=>
   rw[I]at hr O;simp only[]at hr;split at hr
   .rename_i v H1 V;cases hp:ei N E o.dst v with
    |none=>rw[hp]at hr;simp[zdc]at hr
    |some E1=>
     rw[hp]at hr;simp only[zdc]at hr;unfold wpList;rw[aj O.symm];refine .inl (xF fit Z h (ht.knows _) V fun z J L g Y=>?_);have U:TR N L E1 (a.put o.dst z):=(ht.mono Y.ext).put g hp;exact A5 fit Z l hr Y.r U (C _ _) (fun e a w he=>hQ _ _ _ (xE Y he))
   .simp at hr
  |false=>
   rw[I]at hr O;simp only[]at hr;cases hp:ei N E o.dst zcb with
   |none=>rw[hp]at hr;simp[zdc]at hr
   |some E1=>
    rw[hp]at hr;simp only[zdc]at hr;unfold wpList;rw[af (by rw[<-O];simp)];exact A5 fit Z l hr h (ht.put (uI G) hp) (C _ _) hQ
end
section
variable {P:Program} {B:Bs} {G:Gh} {H H':Hp} {w:World} {cfg:Cfg}
theorem Sx.beq_eq:∀{a b:Sx},Sx.beq a b=true->a=b
 | .var i,b,h=>by
   cases b<;>simp only[Sx.beq,cK]at h;rw[hM h]
 | .lit i,b,h=>by
   cases b<;>simp only[Sx.beq,cK,mW]at h;rw[h]
 | .bin o k x y,b,h=>by
   cases b<;>simp only[Sx.beq,cK,i9]at h;obtain⟨⟨⟨rfl,rfl⟩,Z⟩,g⟩:=h;rw[Sx.beq_eq Z,Sx.beq_eq g]
 | .conv k x,b,h=>by
   cases b<;>simp only[Sx.beq,cK,i9]at h;obtain⟨rfl,Z⟩:=h;rw[Sx.beq_eq Z]
mutual
theorem AV.beq_eq:∀{a b:AV},AV.beq a b=true->a=b
 | .int k a,b,h=>by
   cases b<;>simp only[AV.beq,i9,mW,cK]at h;obtain⟨rfl,rfl⟩:=h;rfl
 | .sx k a,b,h=>by
   cases b<;>simp only[AV.beq,i9,cK]at h;obtain⟨rfl,i⟩:=h;rw[Sx.beq_eq i]
 | .bool a,b,h=>by
   cases b<;>simp only[AV.beq,mW,cK]at h;subst h;rfl
 | .str a,b,h=>by
   cases b<;>simp only[AV.beq,mW,cK]at h;subst h;rfl
 | .nilP,b,h=>by cases b<;>simp only[AV.beq,cK]at h;rfl
 | .nilM,b,h=>by cases b<;>simp only[AV.beq,cK]at h;rfl
 | .nilF,b,h=>by cases b<;>simp only[AV.beq,cK]at h;rfl
 | .nilS,b,h=>by cases b<;>simp only[AV.beq,cK]at h;rfl
 | .ptr r o,b,h=>by
   cases b<;>simp only[AV.beq,bT,cK]at h;obtain⟨i,g⟩:=h;rw[hM i,hM g]
 | .iptr a,b,h=>by
   cases b<;>simp only[AV.beq,cK]at h;rw[zdD h]
 | .sl r o l z,b,h=>by
   cases b<;>simp only[AV.beq,bT,cK]at h;obtain⟨⟨⟨i,g⟩,m⟩,L⟩:=h;rw[hM i,hM g,hM m,hM L]
 | .lst a,b,h=>by
   cases b<;>simp only[AV.beq,cK]at h;rw[Ey h]
 | .map r,b,h=>by
   cases b<;>simp only[AV.beq,cK]at h;rw[hM h]
 | .clo f a,b,h=>by
   cases b<;>simp only[AV.beq,bT,cK]at h;rw[hM h.1,zdD h.2]
 | .agg a,b,h=>by
   cases b<;>simp only[AV.beq,cK]at h;rw[zdD h]
 | .tup a,b,h=>by
   cases b<;>simp only[AV.beq,cK]at h;rw[zdD h]
theorem zdD:∀{a b:List AV},zdh a b=true->a=b
 |[],b,h=>by cases b<;>simp only[zdh,cK]at h;rfl
 |a::x,b,h=>by
  cases b<;>simp only[zdh,bT,cK]at h;rw[AV.beq_eq h.1,zdD h.2]
theorem Ey:∀{a b:List (List AV)},rJ a b=true->a=b
 |[],b,h=>by cases b<;>simp only[rJ,cK]at h;rfl
 |a::x,b,h=>by
  cases b<;>simp only[rJ,bT,cK]at h;rw[zdD h.1,Ey h.2]
end
theorem Ez{z β:Type}:∀{a b:List (z×β)},a.map (·.1)=b.map (·.1)->a.map (·.2)=b.map (·.2)->a=b
 |[],b,h,_=>by cases b<;>simp at h;rfl
 |(x,y)::a,b,h,I=>by
  cases b with
  |nil=>simp at h
  |cons c b=>
   obtain⟨u,v⟩:=c;simp only[dN,ez]at h I;obtain⟨rfl,h⟩:=h;obtain⟨rfl,I⟩:=I;rw[Ez h I]
theorem HB.beq_eq{a b:HB}(h:HB.beq a b=true):a=b:=by
 cases a<;>cases b<;>simp only[HB.beq,bT,cK,mW]at h
 .obtain⟨⟨i,g⟩,m⟩:=h;rw[zdD i,hM g,m]
 .rw[Ez (zdD h.1) (zdD h.2)]
def l8(P:Program)(cfg:Cfg)(ih:Task->Res)(f N:Nat)(I:List Oper):List Rec->List Oper->au->Hp->au->Hp->Prop
 |[],[],E,H,E',H'=>E=E'/\H=H'
 |r::rs,o::l,E,H,E',H'=>r.o=o/\r.E=E/\r.H=H/\zc6 I E o=r.did/\(r.did=true->zcd P cfg ih f E H o.op=.val r.val r.H')/\(r.did=false->r.val=zcb/\r.H'=H) /\
  ∃E1,ei N E o.dst r.val=some E1/\l8 P cfg ih f N I rs l E1 r.H' E' H'
 |_,_,_,_,_,_=>False
theorem uV{ih:Task->Res}{f N:Nat}{I:List Oper}:∀{l:List Oper}{E E':au}{H H':Hp}{rs:List Rec},iu P cfg ih f N I l E H=.done E' H' rs->l8 P cfg ih f N I rs l E H E' H'
 |[],E,E',H,H',rs,h=>by
  simp only[iu,ResD.done.injEq]at h;obtain⟨rfl,rfl,rfl⟩:=h;exact⟨rfl,rfl⟩
 |o::l,E,E',H,H',rs,h=>by
  simp only[iu]at h;cases O:zc6 I E o with
  |true=>
   rw[O]at h;simp only[]at h;cases Z:zcd P cfg ih f E H o.op with
   |val v H1=>
    rw[Z]at h;simp only[]at h;cases hp:ei N E o.dst v with
    |none=>rw[hp]at h;simp[zdA,mM]at h
    |some E1=>
     rw[hp]at h;simp only[zdA]at h;cases hr:iu P cfg ih f N I l E1 H1 with
     |fail=>rw[hr]at h;simp[mM]at h
     |done i m J=>
      rw[hr]at h;simp only[mM,ResD.done.injEq]at h;obtain⟨rfl,rfl,rfl⟩:=h;exact⟨rfl,rfl,rfl,O,fun _=>Z,aw,E1,hp,uV hr⟩
   |done _ _ _=>rw[Z]at h;simp at h
   |fail=>rw[Z]at h;simp at h
  |false=>
   rw[O]at h;simp only[]at h;cases hp:ei N E o.dst zcb with
   |none=>rw[hp]at h;simp[zdA,mM]at h
   |some E1=>
    rw[hp]at h;simp only[zdA]at h;cases hr:iu P cfg ih f N I l E1 H with
    |fail=>rw[hr]at h;simp[mM]at h
    |done i m J=>
     rw[hr]at h;simp only[mM,ResD.done.injEq]at h;obtain⟨rfl,rfl,rfl⟩:=h;exact⟨rfl,rfl,rfl,O,aw,fun _=>⟨rfl,rfl⟩,E1,hp,uV hr⟩
def zcK(rs:List Rec)(j:au)(e:Nat):au:=match rs[e]? with
 |some r=>r.E
 |none=>j
theorem Ba{ih:Task->Res}{f N:Nat}{I:List Oper}:∀{rs:List Rec}{l:List Oper}{E E':au}{H H':Hp},l8 P cfg ih f N I rs l E H E' H'->rs.length=l.length
 |[],[],_,_,_,_,_=>rfl
 |[],_::_,_,_,_,_,h=>by simp[l8]at h
 |_::_,[],_,_,_,_,h=>by simp[l8]at h
 |r::rs,o::l,E,E',H,H',h=>by
  obtain⟨_,_,_,_,_,_,E1,_,h⟩:=h;simp[Ba h]
theorem Bb{ih:Task->Res}{f N:Nat}{I:List Oper}{rs:List Rec}{l:List Oper}{E j:au}{H H':Hp}(h:l8 P cfg ih f N I rs l E H j H'):zcK rs j 0=E/\zbE rs H' 0=H:=by
 cases rs with
 |nil=>
  cases l with
  |nil=>obtain⟨rfl,rfl⟩:=h;exact⟨rfl,rfl⟩
  |cons o l=>simp[l8]at h
 |cons r rs=>
  cases l with
  |nil=>simp[l8]at h
  |cons o l=>
   obtain⟨_,i,g,_⟩:=h;exact⟨by simp[zcK,i],by simp[zbE,g]⟩
structure AtD (P:Program) (cfg:Cfg) (ih:Task->Res) (f N:Nat) (all:List Oper) (o:Oper) (r:Rec) (E E1:au) (H H1:Hp):Prop where
 eo:r.o=o
 eE:r.E=E
 eH:r.H=H
 want:zc6 all E o=r.did
 yes:r.did=true->zcd P cfg ih f E H o.op=.val r.val H1
 no:r.did=false->r.val=zcb/\H1=H
 put:ei N E o.dst r.val=some E1
 eH':r.H'=H1
theorem rZ{ih:Task->Res}{f N:Nat}{I:List Oper}:∀{rs:List Rec}{l:List Oper}{E E':au}{H H':Hp},l8 P cfg ih f N I rs l E H E' H'->∀{i:Nat}{r:Rec},rs[i]?=some r ->
 ∃o,l[i]?=some o/\AtD P cfg ih f N I o r (zcK rs E' i) (zcK rs E' (i+1)) (zbE rs H' i) (zbE rs H' (i+1))
 |[],_,_,_,_,_,_,i,r,hr=>by simp at hr
 |r::rs,[],_,_,_,_,h,_,_,_=>by simp[l8]at h
 |r::rs,o::l,E,E',H,H',h,i,r',hr=>by
  obtain⟨V,g,m,L,O,U,E1,M,Y⟩:=h;obtain⟨j,K⟩:=Bb Y;cases i with
  |zero=>
   simp at hr;subst hr;have Z:zcK (r::rs) E' 1=E1:=by rw[<-j];simp[zcK]
   have C:zbE (r::rs) H' 1=r.H':=by rw[<-K];simp[zbE]
   have e3:zcK (r::rs) E' 0=E:=by simp[zcK,g]
   have e4:zbE (r::rs) H' 0=H:=by simp[zbE,m]
   refine⟨o,rfl,?_⟩;rw[Z,C,e3,e4];exact⟨V,g,m,L,O,fun hn=>⟨(U hn).1,(U hn).2⟩,M,rfl⟩
  |succ i=>
   obtain⟨J,z,g2⟩:=rZ Y (i:=i) (r:=r') (by simpa using hr);have Z:∀k,zcK (r::rs) E' (k+1)=zcK rs E' k:=fun k=>by simp[zcK]
   have C:∀k,zbE (r::rs) H' (k+1)=zbE rs H' k:=fun k=>by simp[zbE]
   refine⟨J,xt,?_⟩;rw[Z,Z,C,C];exact g2
def pI(op:Op):Bool:=match zcN op with|.calm=>true |_=>false
def oH(op:Op):Bool:=match zcN op with|.read=>true |_=>false
theorem ME{D:BinOp->Sx->Sx->Option Bool}{E:au}{op:Op}(j:pI op=true):∃u,∀X,cH P D E X op=ret X u:=by
 cases op<;>simp only[pI,zcN,cK]at j<;>simp only[cH]
 case move x=>exact⟨_,fun X=>rfl⟩
 case assign x=>exact⟨_,fun X=>rfl⟩
 case pick c a b=>
  unfold wX;cases zaZ E c with
  |none=>exact⟨none,fun X=>rfl⟩
  |some v=>cases v with
   |bool t=>cases t<;>exact⟨_,fun X=>rfl⟩
   |_=>exact⟨none,fun X=>rfl⟩
 case build t parts=>
  unfold wY;cases zde E parts.toList with
  |none=>exact⟨none,fun X=>rfl⟩
  |some C=>exact⟨_,fun X=>rfl⟩
 case nilCheck x=>
  unfold w1;cases zaZ E x with
  |none=>exact⟨none,fun X=>rfl⟩
  |some v=>cases v with
   |ptr r o=>exact⟨some (.ptr r o),fun X=>rfl⟩
   |iptr Z=>exact⟨some (.iptr Z),fun X=>rfl⟩
   |_=>exact⟨none,fun X=>rfl⟩
 case binOp op t x y yt=>
  unfold w5;cases zaZ E x with
  |none=>exact⟨none,fun X=>rfl⟩
  |some v=>cases zaZ E y with
   |none=>exact⟨none,fun X=>rfl⟩
   |some u=>exact⟨_,fun X=>rfl⟩
 case unOp op t x=>
  unfold w6;cases zaZ E x with
  |none=>exact⟨none,fun X=>rfl⟩
  |some v=>exact⟨_,fun X=>rfl⟩
 case makeFunc fn first captured=>
  unfold w7;cases fn with
  |func f=>
   cases first.toList with
   |nil=>cases zcY E captured.toList with
    |none=>exact⟨none,fun X=>rfl⟩
    |some vs=>exact⟨some (.clo f vs),fun X=>rfl⟩
   |cons _ _=>exact⟨none,fun X=>rfl⟩
  |_=>exact⟨none,fun X=>rfl⟩
 case fieldAddr t x f=>
  unfold w8;cases zaZ E x with
  |none=>exact⟨none,fun X=>rfl⟩
  |some v=>exact⟨_,fun X=>rfl⟩
 case field t x f=>
  unfold w9;cases zaZ E x with
  |none=>exact⟨none,fun X=>rfl⟩
  |some v=>exact⟨_,fun X=>rfl⟩
 case indexAddr t x i=>
  unfold xc;cases zaZ E x with
  |none=>exact⟨none,fun X=>rfl⟩
  |some v=>cases zaZ E i with
   |none=>exact⟨none,fun X=>rfl⟩
   |some u=>exact⟨_,fun X=>rfl⟩
 case index t x i=>
  unfold xd;cases zaZ E x with
  |none=>exact⟨none,fun X=>rfl⟩
  |some v=>cases zaZ E i with
   |none=>exact⟨none,fun X=>rfl⟩
   |some u=>exact⟨_,fun X=>rfl⟩
 case extract x i=>
  unfold xf;cases zaZ E x with
  |none=>exact⟨none,fun X=>rfl⟩
  |some v=>exact⟨_,fun X=>rfl⟩
 all_goals exact⟨none,fun X=>rfl⟩
theorem Bc{D:BinOp->Sx->Sx->Option Bool}{E:au}{op:Op}{v:AV}(j:pI op=true)(h:cH P D E H op=some (v,H')):H'=H/\∀X,cH P D E X op=some (v,X):=by
 obtain⟨u,J⟩:=ME (P:=P) (D:=D) (E:=E) j;rw[J]at h;obtain⟨rfl,rfl⟩:=zdf h;exact⟨rfl,fun X=>by rw[J];rfl⟩
theorem Be{ih:Task->Res}{f:FuncId}{E:au}{op:Op}{v:AV}(j:oH op=true)(h:zcd P cfg ih f E H op=.val v H'):H'=H:=by
 cases op<;>simp only[oH,zcN,cK]at j<;>simp only[zcd,cH]at h
 case load t x=>
  unfold ut at h;split at h
  .cases I:ip P H t ‹AV› <;>rw[I]at h<;>simp[ret,zcP]at h;exact h.2.symm
  .simp[zcP]at h
 case slice t x lo hi mx=>
  unfold uy at h;split at h
  .rename_i Z lv M _ _ _;cases I:mJ P H t Z lv M<;>rw[I]at h<;>simp[ret,zcP]at h;exact h.2.symm
  .simp[zcP]at h
 case convert s d x=>
  unfold uu at h;split at h
  .cases I:zdg P H s d ‹AV› <;>rw[I]at h<;>simp[ret,zcP]at h;exact h.2.symm
  .simp[zcP]at h
 case lookup t m k ok=>
  unfold uz at h;split at h
  .rename_i mv L _ _;cases I:jd P H t mv L ok<;>rw[I]at h<;>simp[ret,zcP]at h;exact h.2.symm
  .simp[zcP]at h
 case call c=>
  unfold qA at h;cases hc:c.callee with
  |value g=>rw[hc]at j;simp at j
  |invoke g m=>rw[hc]at j;simp at j
  |builtin b=>
   rw[hc]at j h;simp only[]at h;split at h
   .rename_i vs _;cases b<;>simp only[cK]at j<;>simp only[oA]at h;all_goals
     split at h
     .rename_i Y H1 o;simp only[Res.val.injEq]at h;obtain⟨rfl,rfl⟩:=h;split at o
      .split at o
       .simp only[ce]at o;exact o.2.symm
       .simp at o
      .simp at o
     .simp at h
   .simp at h
theorem MF{D:BinOp->Sx->Sx->Option Bool}{E:au}{o:Oper}{v:AV}(j:qC o=true)(h:cH P D E H o.op=some (v,H')):∃z,H'=H.alloc z:=by
 obtain⟨Z,O,I,J,K,guard⟩:=o;simp only[]at h;cases O<;>simp only[qC,zcN,cK]at j<;>simp only[cH,reduceCtorEq]at h
 case alloc t=>
  unfold uq at h;split at h
  .simp only[ce]at h;exact⟨_,h.2.symm⟩
  .simp at h
 case box t x=>
  unfold ur at h;split at h
  .simp only[ce]at h;exact⟨_,h.2.symm⟩
  .simp at h
 case buildSlice t len parts=>
  unfold us at h;split at h
  .unfold zcv at h;(repeat' split at h)<;>first|(simp only[ce]at h;exact⟨_,h.2.symm⟩)|simp at h
  .simp at h
 case makeMap t r=>
  unfold uw at h;split at h
  .simp only[ce]at h;exact⟨_,h.2.symm⟩
  .simp at h
 case makeSlice t l c=>
  unfold ux at h;split at h
  .unfold zdC at h;(repeat' split at h)<;>first|(simp only[ce]at h;exact⟨_,h.2.symm⟩)|simp at h
  .simp at h
theorem r0{ih:Task->Res}{f:FuncId}{E:au}{op:Op}{v:AV}(U:∀c,op≠.call c):zcd P cfg ih f E H op=.val v H'↔cH P cfg.dec E H op=some (v,H'):=by
 have:zcd P cfg ih f E H op=zcP (cH P cfg.dec E H op):=by
  unfold zcd;split
  .exact(U _ rfl).elim
  .rfl
 rw[this];cases cH P cfg.dec E H op with
 |none=>simp[zcP]
 |some p=>obtain⟨a,b⟩:=p;simp[zcP]
theorem MG{ih:Task->Res}{f:FuncId}{E:au}{o:Oper}{v:AV}(Z:lh o=false)(h:zcd P cfg ih f E H o.op=.val v H'):H'=H\/∃z,H'=H.alloc z:=by
 cases j:zcN o.op with
 |act=>simp[lh,j]at Z
 |read=>exact .inl (Be (by simp[oH,j]) h)
 |calm=>
  have hn:∀c,o.op≠.call c:=fun c e=>by
   rw[e]at j;simp only[zcN]at j;split at j<;>simp at j
  exact .inl (Bc (P:=P) (by simp[pI,j]) ((r0 hn).1 h)).1
 |make=>
  have hn:∀c,o.op≠.call c:=fun c e=>by
   rw[e]at j;simp only[zcN]at j;split at j<;>simp at j
  exact .inr (MF (by simp[qC,j]) ((r0 hn).1 h))
end
end Go.Ab
