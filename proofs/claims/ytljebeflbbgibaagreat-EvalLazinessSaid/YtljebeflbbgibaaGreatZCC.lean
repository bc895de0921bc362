/- Parts: AbOps3, AbOps4, AbOps5, AbOps6, AbOp, AbRun, AbDraw1. -/
import Derived.Laws.Tables
import Derived.Lib.Strings
import Derived.Test.YtljebeflbbgibaaGreatZCB
set_option linter.unusedSimpArgs false
set_option linter.unusedVariables false
set_option linter.unusedSectionVars false
set_option linter.defProp false
set_option maxHeartbeats 32000000
namespace Go.Ab
set_option maxRecDepth 20000
open Go
theorem yJ{P:Prop}(h:P:=by show F.data.toList.length=F.data.size;simp):P:=h
theorem yK{P:Prop}(h:P:=by rw[<- Nat.add_mul];congr 1;omega):P:=h
theorem rr{P:Prop}(h:P:=by simpa using Z):P:=h
theorem vK{P:Prop}(h:P:=by simp[Builtin.lenOf]):P:=h
theorem ru{P:Prop}(h:P:=by rw[List.length_take];omega):P:=h
theorem tA{P:Prop}(h:P:=by simp[Builtin.len_,zdB hd,goInt]):P:=h
theorem dO{P:Prop}(h:P:=by simp[Op.operands]):P:=h
theorem yL{P:Prop}(h:P:=by simp only[Op.operands,List.mem_toArray,List.mem_map];exact⟨p,hp,rfl⟩):P:=h
theorem yM{P:Prop}(h:P:=by apply Array.ext';simp):P:=h
theorem rx{P:Prop}(h:P:=by rw[I];rfl):P:=h
def kq:=@Nat.sub_self
def jp:=@Option.map_some
def ku:=@congrArg
def cK:=@Nat.zero_le
def k6:=@Nat.add_mul
def yN:=@List.zipIdx_cons
def CP:=@Array.toList_setIfInBounds
def mw:=@List.take_add_one
def yO:=@Decidable.byContradiction
def my:=@Nat.add_zero
def ry:=@Array.toArray_toList
def pF:=@Nat.succ_mul
def yP:=@Array.toList_map
def dX:=@List.getElem?_map
def yQ:=@List.getElem?_range
def br:=@List.append_nil
def rz:=@Nat.mul_le_mul_right
def yR:=@List.map_take
def pG:=@Go.IntWalk.i64_in
def lN:=@List.flatten_cons
def tB:=@Nat.zero_mul
def yS:=@Go.run_firstCells_some
def jL:=@List.mem_of_getElem?
def dQ:=@List.drop_zero
def vL:=@Nat.sub_zero
def tC:=@List.take_length
def dp:=@Bool.and_eq_true
def tD:=@Nat.le_of_ble_eq_true
def cr:=@Bool.false_eq_true
def vM:=@List.drop_append_of_le_length
def jq:=@decide_eq_true_eq
def a3:=@Option.getD_some
def oB:=@List.getElem?_set
def tE:=@Array.getElem?_toList
def cM:=@List.cons.injEq
def gg:=@Nat.mul_one
def oC:=@Go.Code.wp_mono
def dJ:=@List.map_cons
def kw:=And.intro @dp @jq
end Go.Ab
namespace Go.Ab
set_option maxRecDepth 20000
open Go Go.RowKit
def pH(G:Gh):Option AV->Option Value->Prop
 |none,none=>True
 |some c,some v=>VR G c v
 |_,_=>False
section
variable {P:Program} {B:Bs} {G:Gh} {H H':Hp} {w:World}
theorem vN{c:AV}{v:Value}{k y:Nat}(code:BoundsCode)(h:VR G c v)(z:zd3 0 (some c)=some k)(j:k<=y):(Instr.sliceBound v y code).run P w=.ok k w:=by
 unfold zd3 at z;split at z
 .simp at *
 .rename_i C n e;simp only[az]at z e;subst z;subst e;cases h;simp[Instr.sliceBound,asIntOf,j]
 .simp at z
theorem Lh{d k:Nat}{c:AV}(h:zd3 d (some c)=some k):zd3 0 (some c)=some k:=by
 unfold zd3 at *;split at h<;>simp_all
theorem yT{lo C:Option AV}{J K:Option Value}{l h len cap:Nat}(I:pH G lo J)(Y:pH G C K)(L:zd3 0 lo=some l)(M:zd3 len C=some h)(h1:l<=h)(h2:h<=len)(Z:len<=cap)(o:Bool):
 (Instr.sliceBounds o len cap J K none).run P w=.ok (l,h,cap) w:=by
 cases C with
 |none=>
  cases K with
  |some v=>exact Y.elim
  |none=>
   simp only[zd3,az]at M;subst M;cases lo with
   |none=>
    cases J with
    |some v=>exact I.elim
    |none=>
     simp only[zd3,az]at L;subst L;simp[Instr.sliceBounds]
   |some c=>
    cases J with
    |none=>exact I.elim
    |some v=>simp[Instr.sliceBounds,vN _ I L h1]
 |some A=>
  cases K with
  |none=>exact Y.elim
  |some W=>
   have z:=Lh M;cases lo with
   |none=>
    cases J with
    |some v=>exact I.elim
    |none=>
     simp only[zd3,az]at L;subst L;simp[Instr.sliceBounds,vN _ Y z (show h<=cap by omega)]
   |some c=>
    cases J with
    |none=>exact I.elim
    |some v=>simp[Instr.sliceBounds,vN _ I L h1,vN _ Y z (show h<=cap by omega)]
theorem Li{t:TypeId}{x c:AV}{xv:Value}{lo C:Option AV}{K I:Option Value}(hx:VR G x xv)(hl:pH G lo K)(hh:pH G C I)(h:zeh P t x lo C=some c):
 ∃v,(Instr.sliceAt t xv K I none).run P w=.ok v w/\VR G c v:=by
 unfold zeh at h;split at h
 .rename_i s hd;split at h
  .rename_i l hh' L M;split at h
   .rename_i hc;simp only[az]at h;subst h;cases hx with
    |str F _ hs=>
     subst hs;have hb:=yT (P:=P) (w:=w) (cap:=F.size) hl hh L M hc.1 hc.2 (by show F.data.toList.length<=F.data.size;simp) false;have hsz:F.data.toList.length=F.size:=yJ;rw[hsz]at hb;refine⟨.string (F.extract l hh'),?_,.str _ _ (Lib.extract_data _ _ _)⟩;simp only[Instr.sliceAt,dI,zdB hd,dN,Instr.slice];simp[hb]
   .simp at h
  .simp at h
 .rename_i e y hd;split at h
  .rename_i z hz;have Y:∀(a:Option Addr) (W cap l V:Nat),xv=.slice a W cap->zd3 0 lo=some l->zd3 W C=some V->l<=V->V<=W->W<=cap ->
    (Instr.sliceAt t xv K I none).run P w=.ok (.slice (if cap=l then a else a.map (·.add (l*z))) (V-l) (cap-l)) w:=fun a W cap l V e1 L M A U h3=>by
    subst e1;simp only[Instr.sliceAt,dI,zdB hd,dN,Instr.slice];simp[yT hl hh L M A U h3,zeU hz]
   split at h
   .rename_i r off W z';split at h
    .rename_i l V L M;split at h
     .rename_i hc;obtain⟨A,U,rfl⟩:=hc;cases hx with
      |sl hr hlc hx'=>
       rename_i b o x cap;have:=Y _ W cap l V rfl L M A U hlc;split at h
       .rename_i e1;simp only[az]at h;subst h;subst e1;rw[kq]at this;exact⟨_,this,.lst0 _ _⟩
       .rename_i hne;simp only[az]at h;subst h;rw[ah ac]at this;refine⟨_,this,?_⟩;simp only[jp,ze4];rw[gG];refine .sl hr ac ?_;have e3:(cap-l)*z'+l*z'=cap*z':=yK;omega
     .simp at h
    .simp at h
   .rename_i xs;split at h
    .rename_i l V L M;split at h
     .rename_i hc;obtain⟨A,U⟩:=hc;split at h
      .rename_i he;simp only[az]at h;subst h;have Z:V-l=0:=by
        have:=ku List.length he;simp only[iN,ik,jo]at this;omega
       cases hx with
       |lst vs hzz hF hv O=>
        have:=Y _ _ _ l V rfl L M A U O;rw[Z]at this;exact⟨_,this,.lst0 _ _⟩
       |lst0 a cap=>
        have:=Y _ _ _ l V rfl L M A U (cK cap);rw[Z]at this;exact⟨_,this,.lst0 _ _⟩
      .rename_i m rows he;split at h
       .rename_i hrl;simp only[az]at h;subst h;have hpos:0<V-l:=by
         have:=ku List.length he;simp only[iN,ik,dg]at this;omega
        cases hx with
        |lst0 a cap=>simp at U;omega
        |lst vs hzz hF hv O=>
         rename_i b o cap z';have J:=Y _ _ _ l V rfl L M A U O;rw[ah ac]at J;have g:∀i:Nat,(m::rows)[i]?=if i<V-l then xs[l+i]? else none:=fun i=>by
          rw[<-he,mq,nD]
         have hz':z'=z:=by
          have:=g 0;rw[ax hpos]at this;rw[<-hzz (l+0) m (by rw[<-this];rfl)];exact hrl
         subst hz';have Z:(m::rows).length=V-l:=by
          rw[<-he];simp only[iN,ik];omega
         refine⟨_,J,?_⟩;simp only[jp,ze4];rw[<-Z];refine .lst (z:=z') (fun i j=>vs (l+i) j) (fun i rw' C=>?_) (fun i j C hj=>?_) (fun i j rw' d C hj=>?_) (by rw[Z];omega)
         .rw[g i]at C;split at C
          .exact hzz _ _ C
          .simp at C
         .have:=hF (l+i) j (by rw[Z]at C;omega) hj;rw[<-this]
          congr 1
          rw[k6];omega
         .rw[g i]at C;split at C
          .exact hv _ _ _ _ C hj
          .simp at C
       .simp at h
     .simp at h
    .simp at h
   .split at h
    .rename_i L M;simp only[az]at h;subst h;cases hx;have:=Y none 0 0 0 0 rfl L M (aM _) (aM _) (aM _);exact⟨_,this,.nilS⟩
    .simp at h
   .simp at h
  .simp at h
 .simp at h
theorem bO.splice{cs K:List AV}{vs m:List Value}(h:bO G cs vs)(Z:bO G K m)(off:Nat):bO G (Ab.splice cs off K) (vs.take off++m++vs.drop (off+m.length)):=by
 unfold Ab.splice;rw[Z.1];exact((h.take off).append Z).append (h.drop _)
theorem CQ(off:Nat):∀(m:List Value) (k:Nat) (cells:Array Value),off+k+m.length<=cells.size ->
 ((m.zipIdx k).foldl (fun W (c,j)=>W.setIfInBounds (off+j) c) cells).toList=cells.toList.take (off+k)++m++cells.toList.drop (off+k+m.length)
 |[],k,cells,_=>by simp
 |v::m,k,cells,h=>by
  simp only[dg]at h;rw[yN,List.foldl_cons,CQ off m (k+1) _ co];simp only[CP,dg];have hp:off+k<cells.toList.length:=co;have i:(cells.toList.set (off+k) v).take (off+(k+1))=cells.toList.take (off+k)++[v]:=by
   rw[<-gG,mw,List.take_set_of_le (aM _),List.getElem?_set_self hp];rfl
  rw[i,List.drop_set_of_lt ac,show off+(k+1)+m.length=off+k+(m.length+1) by omega];simp
theorem vO{K:Nat->Option (Nat×Nat)}:∀{ps:List (Nat×AV)}{pv:List (Nat×Value)}{cs out:List AV}{vs:List Value},ps.length=pv.length ->
 (∀(i:Nat) p q,ps[i]?=some p->pv[i]?=some q->p.1=q.1/\VR G p.2 q.2)->bO G cs vs->mj K cs ps=some out ->
 ∃U,Instr.fill K vs.toArray pv=some U.toArray/\bO G out U
 |[],[],cs,out,vs,_,_,hv,h=>by
  simp only[mj,az]at h;subst h;exact⟨vs,rfl,hv⟩
 |[],q::pv,_,_,_,hl,_,_,_=>by simp at hl
 |p::ps,[],_,_,_,hl,_,_,_=>by simp at hl
 |(i,c)::ps,(i',v)::pv,cs,out,vs,hl,hp,hv,h=>by
  obtain⟨rfl,V⟩:=hp 0 (i,c) (i',v) rfl rfl;simp only[]at V;simp only[mj]at h;split at h
  .simp at h
  .rename_i M Z W;split at h
   .simp at h
   .rename_i I;have J:=V.cells;have o:v.cells.size=c.cells.length:=by rw[J.1];simp
    have Y:v.cells.size=Z/\M+v.cells.size<=vs.length:=by
     rw[o,<-hv.1];constructor
     .apply yO;intro m;exact I (.inl m)
     .apply yO;intro m;exact I (.inr ac)
    obtain⟨U,C,g⟩:=vO (ps:=ps) (pv:=pv) (cs:=Ab.splice cs M c.cells) (out:=out) (vs:=vs.take M++v.cells.toList++vs.drop (M+v.cells.toList.length))
     (by simpa using hl) (fun j p q L F=>hp (j+1) p q ki (by simpa using F)) (hv.splice J M) h
    refine⟨U,?_,g⟩;simp only[Instr.fill,W];rw[ah co];rw[<-C]
    congr 1
    apply k0;have O:=CQ M v.cells.toList 0 vs.toArray co;simp only[my]at O;rw[List.toList_toArray,<-O];rw[<-Array.foldl_toList,Array.toList_zipIdx]
theorem vP{E:ao}{a:Act}:∀{ps:List (Nat×Operand)}{out:List (Nat×AV)},(∀p∈ps,∀c,zcp E p.2=some c->VR G c (a.eval p.2))->zeQ E ps=some out ->
 out.length=(ps.map fun x=>(x.1,a.eval x.2)).length/\∀(i:Nat) p q,out[i]?=some p->(ps.map fun x=>(x.1,a.eval x.2))[i]?=some q->p.1=q.1/\VR G p.2 q.2
 |[],out,_,h=>by
  simp only[zeQ,az]at h;subst h;exact⟨rfl,aD⟩
 |(i,x)::ps,out,hE,h=>by
  simp only[zeQ]at h;split at h
  .rename_i v vs L m;simp only[az]at h;subst h;obtain⟨Z,g⟩:=vP (ps:=ps) (out:=vs) (fun p hp=>hE p (by simp[hp])) m;refine⟨rr,fun j p q O K=>?_⟩;cases j with
   |zero=>
    simp at O K;subst O K;exact⟨rfl,hE (i,x) aD v L⟩
   |succ j=>exact g j p q tq (by simpa using K)
  .simp at h
theorem Lj{t:TypeId}{ps:List (Nat×AV)}{pv:List (Nat×Value)}{c:AV}(C:ps.length=pv.length)(A:∀(i:Nat) p q,ps[i]?=some p->pv[i]?=some q->p.1=q.1/\VR G p.2 q.2)(h:zdK P t ps=some c):
 ∃v,(Instr.build t pv.toArray).run P w=.ok v w/\VR G c v:=by
 unfold zdK at h;split at h
 .rename_i z M K hd;split at h
  .rename_i L W;split at h
   .rename_i J I;simp only[az]at h;subst h;obtain⟨it,zv,zc,O,j,Z,rfl⟩:=yF K;have m:=(rj (G:=G) Z).cells;obtain⟨U,Y,g⟩:=vO C A m I;refine⟨.agg U.toArray,run_build w t _ _ ?_,.agg g.1 g.2⟩;simp only[Program.built,O,hd,j];unfold Cv at W;rw[W];simp only[ry]at Y;simpa using Y
   .simp at h
  .simp at h
 .rename_i z n e K hd;split at h
  .rename_i s o;split at h
   .rename_i J I;simp only[az]at h;subst h;obtain⟨it,zv,zc,O,j,Z,rfl⟩:=yF K;have m:=(rj (G:=G) Z).cells;obtain⟨ie,F,V⟩:=CG o;obtain⟨U,Y,g⟩:=vO C A m I;refine⟨.agg U.toArray,run_build w t _ _ ?_,.agg g.1 g.2⟩;simp only[Program.built,O,hd,j,F,V];simp only[ry]at Y;simpa using Y
   .simp at h
  .simp at h
 .simp at h
theorem rep_get(z:List AV):∀(n j:Nat),j<n*z.length->(gw z n)[j]?=z[j%z.length]?
 |0,j,h=>by simp at h
 |n+1,j,h=>by
  simp only[gw];by_cases O:j<z.length
  .rw[i7 O,Nat.mod_eq_of_lt O]
  .have V:j<n*z.length+z.length:=by simpa [pF]using h
   rw[jI ac,rep_get z n (j-z.length) ac]
   congr 1
   exact(Nat.mod_eq_sub_mod ac).symm
theorem vQ(z:List AV):∀n,(gw z n).length=n*z.length
 |0=>by simp[gw]
 |n+1=>by simp[gw,vQ z n,k6];omega
theorem CR{z:List AV}{I:Array Value}(m:bO G z I.toList)(n:Nat):bO G (gw z n) (((Array.range (n*z.length)).map (I[·% I.size]!))).toList:=by
 have W:=m.1;refine⟨by simp[vQ],fun j c v hc Y=>?_⟩;have O:j<n*z.length:=by
  have:=(dD.1 hc).1;rw[vQ]at this;exact this
 rw[rep_get z n j O]at hc;simp only[yP,Array.toList_range,dX,yQ O,jp,az]at Y;have Z:0<z.length:=by
  rcases Nat.eq_zero_or_pos z.length with e|e
  .rw[e]at O;omega
  .exact e
 have M:j%z.length<z.length:=Nat.mod_lt _ Z;have L:I.size=z.length:=by simpa using W.symm
 refine m.2 (j%z.length) c v hc ?_;rw[L]at Y;rw[<-Y];simp[L,M]
theorem CS{K:Nat->Option (Nat×Nat)}:∀{L:List (Nat×AV)}{Z W:List AV},mj K Z L=some W->W.length=Z.length
 |[],Z,W,h=>by simp only[mj,az]at h;rw[h]
 |(i,c)::L,Z,W,h=>by
  simp only[mj]at h;split at h
  .simp at h
  .split at h
   .simp at h
   .rename_i hc;rw[CS h,KV];apply yO;intro m;exact hc (.inr ac)
theorem CT{t:TypeId}{len:Nat}{ps:List (Nat×AV)}{pv:List (Nat×Value)}{c:AV}(J:ps.length=pv.length)(F:∀(i:Nat) p q,ps[i]?=some p->pv[i]?=some q->p.1=q.1/\VR G p.2 q.2)
 (Z:zdS P H t len ps=some (c,H')):lM P G w (Instr.buildSlice t len pv.toArray) id c H H':=by
 unfold zdS at Z;split at Z
 .rename_i e hd;split at Z
  .rename_i s z K C;split at Z
   .rename_i hc;obtain⟨A,I⟩:=hc;split at Z
    .rename_i O M;simp only[ci]at Z;obtain⟨rfl,rfl⟩:=Z;obtain⟨zv,m,j⟩:=tz C;have o:=CR (j G) len;obtain⟨U,Y,g⟩:=vO J F o M;have L:U.length=len*s:=by
      rw[<-g.1,CS M,vQ,I]
     refine⟨.cells O 0 true,.cells (U++[]).toArray e,U.length+0,.slice (some ⟨w.heap.size,0,none⟩) len len,rfl,?_,.cells O U [] e g,fun G' hG=>.sl hG (aM _) ac⟩;rw[br];show _=Result.ok (Value.slice (some ⟨w.heap.size,0,none⟩) len len) _
     .have W:¬(len*s > 2^24):=by omega
      rw[I]at Y;by_cases V:len*s=0
      .rw[V]at Y;simp at Y;simp[Instr.buildSlice,zdB hd,zeU K,V,newRow];rw[show Array.map (fun _:Nat=>(default:Value)) (Array.range 0)=#[]from by simp,Y];rfl
      .simp only[ry]at Y;simp[Instr.buildSlice,zdB hd,zeU K,W,V,m,Y,newRow]
    .simp at Z
   .simp at Z
  .simp at Z
 .simp at Z
theorem CU{t:TypeId}{l c r:AV}{O cv:Value}(hl:VR G l O)(hc:VR G c cv)(M:zeb P H t l c=some (r,H')):
 lM P G w (Instr.makeSlice t O cv) id r H H':=by
 unfold zeb at M;split at M
 .rename_i e zdc l zc8 c hd;cases hl;cases hc;split at M
  .rename_i s b z K hb hz;split at M
   .rename_i Z;obtain⟨V,h2,h3,h4⟩:=Z;simp only[ci]at M;obtain⟨rfl,rfl⟩:=M;obtain⟨I,m,j⟩:=tz hz;obtain⟨i,L,C⟩:∃i,P.info? e=some i/\i.bytes=b:=by simpa [zc7,mr]using hb
    have M:zdO=70368744177664:=rfl;rw[M]at h2 h3;have o:=CR (j G) l;have Y:((Array.range (c*s)).map (I.cells[·% I.cells.size]!)).toList=((Array.range (l*s)).map (I.cells[·% I.cells.size]!)).toList++(((Array.range (c*s)).map (I.cells[·% I.cells.size]!)).toList.drop (l*s)):=by
     have W:l*s<=c*s:=rz _ V
     conv=>lhs;rw[<-List.take_append_drop (l*s) ((Array.range (c*s)).map (I.cells[·% I.cells.size]!)).toList]
     congr 1
     simp only[yP,Array.toList_range,<-yR];rw[List.take_range,Nat.min_eq_left W]
    rw[h4]at o;have F:Made G (.cells (gw z l) 0 true) _ _:=.cells _ _ (((Array.range (c*s)).map (I.cells[·% I.cells.size]!)).toList.drop (l*s)) e o;rw[<-Y,ry]at F;refine⟨_,_,_,.slice (some ⟨w.heap.size,0,none⟩) l c,rfl,?_,F,fun G' hG=>.sl hG V ?_⟩
    .show _=Result.ok (Value.slice (some ⟨w.heap.size,0,none⟩) l c) _;have zex:IntKind.i64.wrap (l:Int)=l:=pG _ ac;have J:IntKind.i64.wrap (c:Int)=c:=pG _ ac;have U:¬((b:Int)*c > 2^48):=by
      have:(b:Int)*c=((c*b:Nat):Int):=by rw[Nat.mul_comm];simp
      rw[this];omega
     have A:¬((281474976710656:Int)<(b:Int)*c):=by simpa using U
     have h6:¬(c<l):=ac;have p1:¬((c:Int)<0):=ac;have p2:¬((l:Int)<0):=ac;simp only[Instr.makeSlice,dI,zdB hd,dN,asInt,asIntOf];by_cases h0:c*s=0
     .simp[ro L,C,zex,J,A,h6,p1,p2,zeU K,h0,newRow];rw[show ∀f g:Nat->Value,Array.map f (Array.range 0)=Array.map g (Array.range 0)from fun f g=>aD]
     .simp[ro L,C,zex,J,A,h6,p1,p2,zeU K,h0,m,newRow]
    .have W:l*s<=c*s:=rz _ V;simp;omega
   .simp at M
  .simp at M
 .simp at M
end
section
variable {P:Program} {B:Bs} {G:Gh} {H H':Hp} {w:World}
theorem bO.oneCell{cs:List AV}{vs:List Value}(h:bO G cs vs)(J:cs.all AV.one=true):∀v∈vs,v.oneCell'=true:=fun v L=>by
 obtain⟨i,C,rfl⟩:=oA L;have Z:i<cs.length:=by rw[h.1];exact C
 rw[(h.2 i _ _ (aO Z) (aO C)).oneCell];exact f9.1 J _ (dj Z)
theorem Lk{xs:List (List AV)}{s:Nat}(K:∀(i:Nat) (z:List AV),xs[i]?=some z->z.length=s):xs.flatten.length=xs.length*s /\
 ∀(i j:Nat) (c:AV),j<s->xs.flatten[i*s+j]?=some c->∃z,xs[i]?=some z/\z[j]?=some c:=by
 induction xs with
 |nil=>exact⟨aD,aD⟩
 |cons z xs ih=>
  have hr:=K 0 z rfl;obtain⟨Z,g⟩:=ih (fun i r C=>K (i+1) r (by simpa using C));refine⟨by simp[Z,hr,pF];omega,fun i j c O hc=>?_⟩;rw[lN]at hc;cases i with
  |zero=>
   rw[tB,bw,i7 ac]at hc;exact⟨z,rfl,hc⟩
  |succ i=>
   rw[jI (by rw[hr,pF];omega)]at hc;rw[hr,show(i+1)*s+j-s=i*s+j by rw[pF];omega]at hc;obtain⟨r,W,Y⟩:=g i j c O hc;exact⟨r,pB,Y⟩
theorem Ll{k n s:Nat}(h:k<n*s):k/s<n/\k%s<s/\k=k/s*s+k%s:=by
 have K:0<s:=by
  rcases Nat.eq_zero_or_pos s with e|e
  .subst e;omega
  .exact e
 refine⟨(Nat.div_lt_iff_lt_mul K).2 h,Nat.mod_lt _ K,?_⟩;have:=Nat.div_add_mod k s;rw[Nat.mul_comm]at this;omega
theorem Lm(h:R B H w G){t:TypeId}{x c:AV}{W:Value}{lo C:Option AV}{J Z:Option Value}(F:VR G x W)(I:pH G lo J)(V:pH G C Z)(K:kR P H t x lo C=some c):
 ∃v,(Instr.sliceAt t W J Z none).run P w=.ok v w/\VR G c v:=by
 unfold kR at K;split at K
 .rename_i r M;split at K
  .rename_i n e cs g O hd A;split at K
   .rename_i z l U m L j;split at K
    .rename_i hc;obtain⟨h1,h2,h3⟩:=hc;cases F with
     |ptr hr=>
      rename_i b o x;have hf:=h.fits _ _ _ _ _ _ _ hr A;have hb:=yT (P:=P) (w:=w) (cap:=n) I V L j h1 h2 (aM _) false;have Y:(Instr.sliceAt t (.pointer (some ⟨b,o+M,none⟩)) J Z none).run P w=.ok (.slice (some (if n=l then ⟨b,o+M,none⟩else ⟨b,o+M+l*z,none⟩)) (U-l) (n-l)) w:=by
       simp only[Instr.sliceAt,dI,zdB hd,dN];simp[Instr.sureAddr,hb,zeU m,ze4]
      split at K
      .rename_i i;simp only[az]at K;subst K;subst i;rw[kq]at Y;exact⟨_,Y,.lst0 _ _⟩
      .rename_i hne;simp only[az]at K;subst K;rw[ah ac]at Y;refine⟨_,Y,?_⟩;rw[gG];refine .sl hr ac ?_;have e3:(n-l)*z+l*z=n*z:=yK;omega
    .simp at K
   .simp at K
  .simp at K
 .exact Li F I V K
theorem yU(h:R B H w G){s n:Nat}{x:AV}{xv:Value}{l:List AV}(hx:VR G x xv)(K:zer H s x=some (n,l)):
 ∃m,bO G l m/\m.length=n*s/\(∀W,(Builtin.lenOf xv).run P W=.ok n W)/\(∀W,(∀a,W.cell? a=w.cell? a)->(Builtin.firstCells s n xv).run P W=.ok m.toArray W):=by
 unfold zer at K;split at K
 .rename_i r off V z;cases hx with
  |sl hr hl hc=>
   rename_i b o x U;split at K
   .rename_i cs imm tip hg;simp only[]at K;split at K
    .rename_i I;simp only[ci]at K;obtain⟨rfl,rfl⟩:=K;obtain⟨vs,g,h2⟩:=(((h.cells _ _ _ _ _ _ _ hr hg).drop off).take (V*s)).list;have Y:vs.length=V*s:=by rw[<-g.1];exact I
     refine⟨vs,g,Y,fun W=>vK,fun W J=>?_⟩;exact yS W s V _ V U vs Y (fun j v hj=>by rw[J,ze4];exact h2 j v hj)
    .simp at K
   .simp at K
 .rename_i C;split at K
  .rename_i A;simp only[ci]at K;obtain⟨rfl,rfl⟩:=K;have O:∀(i:Nat) (Z:List AV),C[i]?=some Z->Z.length=s:=fun i Z hi=>by
    have:=f9.1 A Z (jL hi);simpa using this
   obtain⟨hfl,hfg⟩:=Lk O;cases hx with
   |lst0 a U=>
    refine⟨[],lL G,aD,fun W=>vK,fun W J=>?_⟩;cases a with
    |none=>simp[Builtin.firstCells]
    |some a=>
     simp[Builtin.firstCells];rfl
   |lst vs hz hF L hcap=>
    rename_i b o U z;have hzs:C.length=0\/z=s:=by
     cases C with
     |nil=>exact .inl rfl
     |cons Z C=>exact .inr (by rw[<-hz 0 Z rfl,O 0 Z rfl])
    have hh:ge G w b o C.flatten:=fun k c hk=>by
     have M:k<C.length*s:=by rw[<-hfl];exact(dD.1 hk).1
     obtain⟨d1,d2,d3⟩:=Ll M;have hz':z=s:=by
      rcases hzs with e|e
      .rw[e]at M;omega
      .exact e
     subst hz';obtain⟨Z,g1,g2⟩:=hfg (k/z) (k%z) c d2 (by rw[<-d3];exact hk);refine⟨vs (k/z) (k%z),?_,L _ _ Z c g1 g2⟩;have:=h.frz _ _ _ (hF (k/z) (k%z) d1 d2);rw[show o+k=o+k/z*z+k%z by omega];exact this
    obtain⟨m,g,h2⟩:=hh.list;have Y:m.length=C.length*s:=by rw[<-g.1];exact hfl
    refine⟨m,g,Y,fun W=>vK,fun W J=>?_⟩;exact yS W s C.length _ C.length U m Y (fun j v hj=>by rw[J,ze4];exact h2 j v hj)
  .simp at K
 .simp only[ci]at K;obtain⟨rfl,rfl⟩:=K;cases hx;exact⟨[],lL G,aD,fun W=>vK,fun W J=>by simp[Builtin.firstCells]⟩
 .rename_i b;split at K
  .rename_i e;subst e;simp only[ci]at K;obtain⟨rfl,rfl⟩:=K;cases hx with
   |str F _ hb=>
    subst hb;have hsz:F.data.toList.length=F.size:=yJ;refine⟨F.data.toList.map fun x=>.int .u8 x.toNat,⟨aD,fun i c v hc L=>?_⟩,aD,fun W=>by simp[Builtin.lenOf,hsz],fun W J=>?_⟩
    .rw[dX]at hc L;cases hi:F.data.toList[i]? with
     |none=>rw[hi]at hc;simp at hc
     |some u=>
      rw[hi]at hc L;simp only[jp,az]at hc L;subst hc L;exact .int _ _
    .simp only[Builtin.firstCells,il]
     congr 1
     apply k0;have:(F.extract 0 F.data.toList.length).data.toList=F.data.toList:=by
      rw[Lib.extract_data,dQ,vL,tC]
     simp only[yP,this]
  .simp at K
 .simp at K
theorem CV(z:Array Value)(n:Nat):(Builtin.zeroCells z n).toList.length=n*z.size:=by simp[Builtin.zeroCells]
theorem CW{t u e ty:TypeId}{Z:TypeDesc}(hd:P.underlying t=some (.slice e))(I:P.underlying u=some Z)(g:∀k,Z≠.int k){s:Nat}(K:zcC P e=some s)
 {a:Option Addr}{len cap n:Nat} (o:len+n<=cap) {Y:Value}{m:List Value} (W:(Builtin.lenOf Y).run P w=.ok n w) (i:(Builtin.firstCells s n Y).run P w=.ok m.toArray w) :
 (Builtin.append_ #[t,u] ty #[.slice a len cap,Y]).run P w=(match a with
   |some a=>((storeCells (a.add (len*s)) m).run P w).andThen fun _ V=>.ok (.slice (some a) (len+n) cap) V
   |none=>.ok (.slice none (len+n) cap) w):=by
 have U:(match Z with|.int _=>true |_=>false)=false:=by cases Z<;>first|rfl|exact(g _ rfl).elim
 simp only[Builtin.append_];simp[zdB hd,zdB I,zeU K,W];rw[ax o,i];cases a<;>simp
theorem CX{t u e ty:TypeId}{Z:TypeDesc}(hd:P.underlying t=some (.slice e))(U:P.underlying u=some Z)(g:∀k,Z≠.int k){s:Nat}(K:zcC P e=some s){b:Nat}(z:zc7 P e=some b)
 {I:Value} (O:∀w,(zeroValue e).run P w=.ok I w)
 {a:Option Addr}{len cap n:Nat} (o:cap<len+n) (J:(len+n)*b<=zdO) (j:len+n<=zdO) {Y:Value}{ov V:List Value} (M:(Builtin.lenOf Y).run P w=.ok n w) (L:(Builtin.firstCells s n Y).run P w.drew=.ok V.toArray w.drew)
 (F:(Builtin.firstCells s len (.slice a len cap)).run P w.drew=.ok ov.toArray w.drew) :
 (Builtin.append_ #[t,u] ty #[.slice a len cap,Y]).run P w=.ok (.slice (some ⟨w.heap.size,0,none⟩) (len+n) (grownCap w (len+n) cap e))
   (w.drew.alloc (.cells (ov++V++(Builtin.zeroCells I.cells (grownCap w (len+n) cap e-(len+n))).toList).toArray e)):=by
 have hz':(match Z with|.int _=>true |_=>false)=false:=by cases Z<;>first|rfl|exact(g _ rfl).elim
 obtain⟨i,A,C⟩:∃i,P.info? e=some i/\i.bytes=b:=by simpa [zc7,mr]using z
 have hm:zdO=70368744177664:=rfl;rw[hm]at J j;have m:¬(281474976710656<Builtin.nextslicecap (len+n) cap*b):=by
  have:=growslice_fits o (bytes:=b) ac;omega
 have W:¬(9223372036854775807<((len:Int)+(n:Int))):=ac;have h1:¬(len+n<=cap):=ac;simp only[Builtin.append_];simp[zdB hd,zdB U,zeU K,M,h1,ro A,C,W,m,Question.forced,F,L,O,newRow,grownCap]
 congr 2
 apply k0;simp
theorem R.heap{w':World}(h:R B H w G)(e:w'.heap=w.heap):R B H w' G:=by
 have k:∀a,w'.cell? a=w.cell? a:=fun a=>by simp[World.cell?,e]
 have Y:∀a,w'.frozen? a=w.frozen? a:=fun a=>by simp[World.frozen?,e]
 exact{
  base:=by rw[e];exact h.base
  dom:=h.dom
  lt:=fun r b o x hr=>by rw[e];exact h.lt r b o x hr
  cells:=fun r b o x W imm O hr hc j c Z=>by rw[k];exact h.cells r b o x W imm O hr hc j c Z
  imm:=h.imm
  ext:=h.ext
  fits:=h.fits
  room:=fun r b o x W imm O hr hc j Z I=>by rw[k,Y];exact h.room r b o x W imm O hr hc j Z I
  apart:=h.apart
  map:=fun r b o x U hr hc=>by rw[e];exact h.map r b o x U hr hc
  mapApart:=h.mapApart
  frz:=fun b o v i=>by rw[k];exact h.frz b o v i
  val:=h.val
  sym:=h.sym}
theorem Step.of_drew{o:Nat}{w':World}{Z:Gh}(h:Step B o G w.drew H' w' Z):Step B o G w H' w' Z:=
 ⟨h.r,h.ext,⟨h.fr.os,h.fr.tape,h.fr.output,h.fr.size,h.fr.block⟩,h.new,h.low,h.mono,h.icy⟩
theorem ge.first{b o off s len:Nat}{cs:List AV}(Y:ge G w b o cs)(I:off+len*s=cs.length){cap:Nat}:
 ∃ov,bO G (cs.drop off) ov/\ov.length=len*s/\∀W,(∀a,W.cell? a=w.cell? a)->(Builtin.firstCells s len (.slice (some ⟨b,o+off,none⟩) len cap)).run P W=.ok ov.toArray W:=by
 obtain⟨vs,i,g⟩:=(Y.drop off).list;have Z:vs.length=len*s:=by rw[<-i.1,ik];omega
 exact⟨vs,i,Z,fun W J=>yS W s len _ len cap vs Z (fun j v O=>by rw[J,ze4];exact g j v O)⟩
theorem CY{u:TypeId}(h:j9 P u=true):∃d,P.underlying u=some d/\∀k,d≠.int k:=by
 unfold j9 at h;split at h
 .rename_i e hd;exact⟨_,hd,aD⟩
 .rename_i hd;exact⟨_,hd,aD⟩
 .simp at h
theorem Ln(h:R B H w G)(keep:Bool)(s:Nat)(sv:AV):Step B H.next G w (fY keep H s sv) w G:=by
 unfold fY;split
 .rename_i r off len z;split
  .rename_i cs imm hg;split
   .rename_i hc;simp only[dp]at hc;have h1:off+len*s<cs.length:=by simpa [gE]using hc.1.2
    have h2:=tD hc.2;generalize off+len*s=m at h1 h2;have hgs:∀W b',(H.set r (.cells (cs.take m) imm true)).get W=some b'->(W=r/\b'=.cells (cs.take m) imm true)\/(W≠r/\H.get W=some b'):=fun W b' F=>by
     rw[aU]at F;split at F
     .rename_i e;simp only[az]at F;exact .inl ⟨e,F.symm⟩
     .rename_i e;exact .inr ⟨e,F⟩
    have I:∀W Y Z A,(H.set r (.cells (cs.take m) imm true)).get W=some (.cells Y Z A)->∃i,H.get W=some (.cells i Z A)/\(∀(j:Nat) c,Y[j]?=some c->i[j]?=some c)/\Y.length<=i.length/\(∀x,zdL x Y A=zdL x i A):=fun W Y Z A F=>by
     rcases hgs W _ F with⟨rfl,e⟩|⟨_,e⟩
     .simp only[HB.cells.injEq]at e;obtain⟨rfl,rfl,rfl⟩:=e;refine⟨cs,hg,fun j c M=>?_,ru,fun x=>rfl⟩;rw[mq]at M;split at M
      .exact M
      .simp at M
     .exact⟨Y,e,fun _ _ h=>h,aM _,fun _=>rfl⟩
    refine⟨?_,rg _,tu _ _,pC _ _,fun _ _ h=>.inl h,aM _,fun _ _ _ h=>.inl h⟩;exact{
     base:=h.base
     dom:=h.dom
     lt:=h.lt
     cells:=fun W b o x Y Z A hr V j c M=>by
      obtain⟨i,O,e2,_⟩:=I W Y Z A V;exact h.cells W b o x i Z A hr O j c (e2 j c M)
     imm:=fun W b o x Y Z A hr V j M hjl=>by
      obtain⟨i,O,_,e3,_⟩:=I W Y Z A V;exact h.imm W b o x i Z A hr O j M ac
     ext:=fun W b o x Y Z A hr V=>by
      obtain⟨i,O,_,e3,e4⟩:=I W Y Z A V;have:=h.ext W b o x i Z A hr O;rw[e4];omega
     fits:=fun W b o x Y Z A hr V=>by
      obtain⟨i,O,_,e3,e4⟩:=I W Y Z A V;have:=h.fits W b o x i Z A hr O;omega
     room:=fun W b o x Y Z A hr V j M hjl=>by
      obtain⟨i,O,_,_,e4⟩:=I W Y Z A V;exact h.room W b o x i Z A hr O j M (by rw[<-e4];exact hjl)
     apart:=fun zct b1 o1 x1 cs1 L K r2 b2 o2 x2 cs2 J g C hc1 hr2 U hne j j' q1 q2 q3 q4=>by
      obtain⟨cs01,O,_,_,e14⟩:=I zct cs1 L K hc1;obtain⟨cs02,e2,_,_,e24⟩:=I r2 cs2 J g U;exact h.apart zct b1 o1 x1 cs01 L K r2 b2 o2 x2 cs02 J g C O hr2 e2 hne j j' q1 (by rw[<-e14];exact q2) q3 (by rw[<-e24];exact q4)
     map:=fun W b o x es hr V=>by
      rcases hgs W _ V with⟨_,e⟩|⟨_,e⟩
      .simp at e
      .exact h.map W b o x es hr e
     mapApart:=fun zct b1 o1 x1 es r2 b2 o2 x2 C hc1 hr2 U hne=>by
      rcases hgs zct _ hc1 with⟨_,e⟩|⟨_,e⟩
      .simp at e
      .refine h.mapApart zct b1 o1 x1 es r2 b2 o2 x2 C e hr2 ?_ hne;rw[aU]at U;split at U
       .rename_i e2;rw[e2,hg];rfl
       .exact U
     frz:=h.frz
     val:=h.val
     sym:=h.sym}
   .exact i8 h
  .exact i8 h
 .exact i8 h
theorem Lo(h:R B H w G){keep:Bool}{t u ty:TypeId}{sv x c:AV}{J xv:Value}(W:VR G sv J)(hx:VR G x xv)(F:zdX P keep H t u sv x=some (c,H')):
 ∃v w' G',(Builtin.append_ #[t,u] ty #[J,xv]).run P w=.ok v w'/\VR G' c v/\Step B H.next G w H' w' G':=by
 unfold zdX at F;split at F
 .rename_i e hd;split at F
  .rename_i s b z hs hb hz;split at F
   .rename_i l0 hst C;obtain⟨du,hu,g⟩:=CY hst;obtain⟨nv,h1,h2,h3,h4⟩:=yU (P:=P) h hx C;have hnv:nv=[]:=by rw[tB]at h2;exact List.length_eq_zero_iff.1 h2
    subst hnv;have key:∀a len cap,J=.slice a len cap->len<=cap->(Builtin.append_ #[t,u] ty #[J,xv]).run P w=.ok J w:=fun a len cap e hlc=>by
     subst e;rw[CW hd hu g hs (n:=0) ac (h3 w) (h4 w (fun _=>rfl))];cases a<;>simp[storeCells]
    split at F
    .simp only[ci]at F;obtain⟨rfl,rfl⟩:=F;refine⟨J,w,G,?_,W,i8 h⟩;cases W with
     |sl hr hl hc=>exact key _ _ _ rfl hl
    .simp only[ci]at F;obtain⟨rfl,rfl⟩:=F;refine⟨J,w,G,?_,W,i8 h⟩;cases W with
     |lst vs hz hF hv hc=>exact key _ _ _ rfl hc
     |lst0 a cap=>exact key _ _ _ rfl (cK _)
    .simp only[ci]at F;obtain⟨rfl,rfl⟩:=F;refine⟨J,w,G,?_,W,i8 h⟩;cases W with
     |nilS=>exact key _ _ _ rfl (aM _)
    .simp at F
   .rename_i n K hnz hst C;obtain⟨du,hu,g⟩:=CY hst;obtain⟨nv,h1,h2,h3,h4⟩:=yU (P:=P) h hx C;have hn0:n≠0:=fun e=>by subst e;exact hnz rfl
    have hnl:K.length=n*s:=by rw[h1.1,h2]
    obtain⟨zv,hzr,hzv⟩:=tz hz;split at F
    .rename_i hcond;obtain⟨hone,hzl⟩:=hcond;have hzs:zv.cells.size=s:=by have:=(hzv G).1;rw[hzl]at this;simpa using this.symm
     have ht:=Ln h keep s sv
     suffices hgoal:∃v w' G',(Builtin.append_ #[t,u] ty #[J,xv]).run P w=.ok v w'/\VR G' c v/\Step B (fY keep H s sv).next G w H' w' G' by
      obtain⟨v,w',G',g1,g2,g3⟩:=hgoal;exact⟨v,w',G',g1,g2,ht.trans g3⟩
     replace h:=ht.r;clear ht C;generalize fY keep H s sv=H at F h⊢;unfold jH at F;split at F
     ·-- onto nil
      split at F
      .rename_i o;simp only[ci]at F;obtain⟨rfl,rfl⟩:=F;cases W;have Y:=CX (P:=P) (w:=w) (ty:=ty) hd hu g hs hb hzr (a:=none) (len:=0) (cap:=0) (n:=n) (ov:=[]) ac (by simpa using o.1) (by simpa using o.2) (h3 w) (h4 w.drew (fun _=>rfl)) (by simp[Builtin.firstCells]);have Z:=vG (h.heap (w':=w.drew) rfl) h1 (Builtin.zeroCells zv.cells (grownCap w (0+n) 0 e-(0+n))).toList e;have m:=grownCap_ge w (0+n) 0 e;refine⟨_,_,_,Y,?_,Z.of_drew⟩;rw[bw]at m⊢;refine .sl (jC _ _ _) m ?_;rw[CV,hzs,h2];have:grownCap w n 0 e*s=n*s+(grownCap w n 0 e-n)*s:=yK;simp;omega
      .simp at F
     ·-- onto a row of its own
      rename_i r off len zz;split at F
      .rename_i cs imm hg;split at F
       .rename_i hcond2;obtain⟨hr1,hr2,hend,rfl,himm⟩:=hcond2;cases W with
        |sl hr hlc hcx=>
         rename_i A O x0 cap;have hHolds:=h.cells _ _ _ _ _ _ _ hr hg;have hex:=h.ext _ _ _ _ _ _ _ hr hg;simp only[zdL]at hex;have hoff:off<=cs.length:=ac;obtain⟨ov,o1,o2,o3⟩:=hHolds.first (P:=P) (off:=off) (s:=zz) (len:=len) hend (cap:=cap)
         have U:r≠H.next:=fun e=>by have:=h.dom _ _ hr;omega
         by_cases i:len+n<=cap
         ·-- in its room
          have Y:=CW (P:=P) (w:=w) (ty:=ty) hd hu g hs (a:=some ⟨A,O+off,none⟩) i (h3 w) (h4 w (fun _=>rfl));simp only[]at Y;rw[ze4,gG,hend]at Y;have hcap:(len+n)*zz<=cap*zz:=rz _ i;rw[k6]at hcap;cases keep with
          |false=>
           simp only[cr,ck,ci]at F;obtain⟨rfl,rfl⟩:=F;obtain⟨w',hw,V⟩:=yE P hr cs.length K nv cs 0 H w h hg h1 (h1.oneCell hone) ac ac tp aD;rw[hw]at Y;simp only[dN]at Y;rw[my,CC]at V;have L:=CD V.r (r:=r) (cs:=cs++K) (imm:=imm) hr hB (off:=off) co;refine⟨_,w',_,Y,?_,(V.trans L).congr rfl fun k _=>?_⟩
           .refine .sl (jC _ _ _) i ?_;omega
           .rw[zcu,zcu,zem,zem,aU,vM hoff];simp only[ze7,zcS];by_cases e1:k=H.next
            .simp only[e1,bT]
            .by_cases e2:k=r
             .simp only[e2,bT]
             .simp only[e1,e2,ck]
          |true=>
           simp only[bT,ci]at F;obtain⟨rfl,rfl⟩:=F;have M:=tx h hr hg (n:=cs.length) himm (aM _) true (fun _=>rfl);obtain⟨w',hw,V⟩:=yE P (G:=G.ice w A O cs.length) (r:=r) (imm:=cs.length) (tip:=true) hr cs.length K nv cs 0 _ w M.r hB (h1.mono M.ext) (h1.oneCell hone) ac ac tp aD;rw[hw]at Y;simp only[dN]at Y;rw[my,CC]at V;have hgr:((H.set r (.cells cs cs.length true)).set r (.cells (cs++K) cs.length true)).get r=some (.cells (cs++K) cs.length true):=hB;have L:=CD V.r (r:=r) (cs:=cs++K) (imm:=cs.length) hr hgr (off:=off) co;have hmid:=(M.trans V).trans L;have hrr:((G.ice w A O cs.length).add H.next (A,O+off,x0-off)).β r=some (A,O,x0):=by
            simp only[Gh.add];rw[ah U];exact hr
           have hnoMap:∀zct b1 o1 x1 es,((G.ice w A O cs.length).add H.next (A,O+off,x0-off)).β zct=some (b1,o1,x1) ->
            ((((H.set r (.cells cs cs.length true)).set r (.cells (cs++K) cs.length true)).kill r).alloc (.cells ((cs++K).drop off) (cs.length-off) true)).get zct=some (.map es)->b1≠A:=fun zct b1 o1 x1 es g1 g2=>by
            rw[zcu,zem,aU,aU]at g2;simp only[ze7,zcS]at g2;by_cases hne:zct=H.next
            .simp[hne]at g2
            .by_cases hne2:zct=r
             .simp[hne2]at g2
             .simp only[hne,hne2,ck]at g2;have g1':G.β zct=some (b1,o1,x1):=by simp only[Gh.add]at g1;rw[ah hne]at g1;exact g1
              exact h.mapApart zct b1 o1 x1 es r A O x0 g1' g2 hr (by rw[hg];rfl) hne2
           have hHolds':ge ((G.ice w A O cs.length).add H.next (A,O+off,x0-off)) w' A O cs:=fun j c hj=>by
            have hjl:j<cs.length:=(dD.1 hj).1;have h5:=V.r.cells r A O x0 _ _ _ hr hgr j c (by rw[i7 hjl];exact hj);obtain⟨v,q1,q2⟩:=h5;exact⟨v,q1,q2.mono L.ext⟩
           have hFF:∀j,j<cs.length->∃v,((G.ice w A O cs.length).add H.next (A,O+off,x0-off)).F A (O+j)=some v:=fun j hj=>
            M.r.imm r A O x0 cs cs.length true hr hB j hj hj
           have hrev:=KY hmid.r hrr (h.fits _ _ _ _ _ _ _ hr hg) hHolds' hFF hnoMap;refine⟨_,w',_,Y,?_,(hmid.trans hrev).congr rfl fun k _=>?_⟩
           .refine .sl (jC _ _ _) i ?_;omega
           .rw[aU,zcu,zcu,zem,aU,aU,aU,vM hoff];simp only[ze7,zcS];have:cs.length-off=len*zz:=ac;rw[this];by_cases e1:k=r
            .subst e1;simp only[U,bT,ck]
            .simp only[e1,ck]
         ·-- a K row
          have hfit':cap<len+n:=ac;have Y:=CX (P:=P) (w:=w) (ty:=ty) hd hu g hs hb hzr (a:=some ⟨A,O+off,none⟩) hfit' hr1 hr2 (h3 w) (h4 w.drew (fun _=>rfl)) (o3 w.drew (fun _=>rfl));have m:=grownCap_ge w (len+n) cap e;have hlen2:(ov++nv).length=(len+n)*zz:=by rw[fj,o2,h2,k6]
          have hcapx:grownCap w (len+n) cap e*zz=(ov++nv).length+(Builtin.zeroCells zv.cells (grownCap w (len+n) cap e-(len+n))).toList.length:=by
           rw[CV,hzs,hlen2,<-k6];congr 1;omega
          have Z:=(vG (h.heap (w':=w.drew) rfl) (o1.append h1) (Builtin.zeroCells zv.cells (grownCap w (len+n) cap e-(len+n))).toList e).of_drew;have hnn:∀(X:HB) (k:Nat),k≠H.next->(H.alloc X).get k=H.get k:=fun X k hk=>by rw[zcu,ah hk]
          have I:∀p,(G.add H.next p).β H.next=some p:=fun p=>jC _ _ _
          have hlenX:(cs.drop off++K).length=(len+n)*zz:=by rw[fj,ik,hnl,k6];omega
          cases keep with
          |false=>
           simp only[cr,ck,ci]at F;obtain⟨rfl,rfl⟩:=F;have hk:=Z.r.kill r;have hgx:((H.alloc (.cells (cs.drop off++K) 0 true)).kill r).get H.next=some (.cells (cs.drop off++K) 0 true):=by
            rw[zem,ah (Ne.symm U),zcu,ax rfl]
           have M:=tx hk (I _) hgx (n:=imm-off) (cK _) (by rw[hlenX,k6];omega) true (fun _=>rfl);have hst2:Step B H.next G w _ _ _:=⟨hk,Z.ext,Z.fr,Z.new,Z.low,Z.mono,Z.icy⟩
           refine⟨_,_,_,Y,?_,(hst2.trans M).congr rfl fun k _=>?_⟩
           .exact .sl (I _) m ac
           .rw[aU,zcu,zem,zem,zcu];simp only[ze7];by_cases e1:k=H.next
            .simp only[e1,bT]
            .simp only[e1,ck]
          |true=>
           simp only[bT,ci]at F;obtain⟨rfl,rfl⟩:=F;have hgx:(H.alloc (.cells (cs.drop off++K) 0 true)).get H.next=some (.cells (cs.drop off++K) 0 true):=ij
           have M:=tx Z.r (I _) hgx (n:=len*zz) (cK _) (by rw[hlenX,k6];omega) true (fun _=>rfl);have hgr:((H.alloc (.cells (cs.drop off++K) 0 true)).set H.next (.cells (cs.drop off++K) (len*zz) true)).get r=some (.cells cs imm true):=by
            rw[aU,ah U,hnn _ _ U];exact hg
           have hice2:=tx M.r (r:=r) (by
            show(G.add H.next _).β r=_;simp only[Gh.add];rw[ah U];exact hr) hgr (n:=cs.length) himm (aM _) false aD
           refine⟨_,_,_,Y,?_,((Z.trans M).trans hice2).congr rfl fun k _=>?_⟩
           .exact .sl (I _) m ac
           .rw[aU,aU,zcu,zcu,aU];simp only[zcS];by_cases e1:k=H.next
            .have e3:¬H.next=r:=fun e=>U e.symm
             simp only[e1,e3,bT,ck]
            .simp only[e1,ck]
       .simp at F
      .simp at F
     .simp at F
    .simp at F
   .simp at F
  .simp at F
 .simp at F
end
section
variable {P:Program} {B:Bs} {G:Gh} {H H':Hp} {w:World}
theorem Lp(F:ByteArray):F.data.toList.length=F.size:=yJ
theorem CZ(h:R B H w G){m:AV}{mv:Value}{U:List (AV×AV)}(M:VR G m mv)(L:pp H m=some U):
 (mv=.map none/\U=[])\/∃r b o x ms O,m=.map r/\mv=.map (some b)/\G.β r=some (b,o,x)/\H.get r=some (.map U)/\w.heap[b]?=some (.map ms O)/\nE G U ms.toList:=by
 unfold pp at L;split at L
 .simp only[az]at L;subst L;cases M;exact .inl ⟨rfl,rfl⟩
 .rename_i r;split at L
  .rename_i V A;simp only[az]at L;subst L;cases M with
   |map hr=>
    rename_i b o x;obtain⟨ms,O,i,g⟩:=h.map r b o x _ hr A;exact .inr ⟨r,b,o,x,ms,O,rfl,rfl,hr,A,i,g⟩
  .simp at L
 .simp at L
theorem tF{b:Nat}{ms:Array MapEntry}{O:Nat}(h:w.heap[b]?=some (.map ms O)):(getObj b).run P w=.ok (.map ms O) w:=by
 simp[getObj,Sem.run,h]
theorem Lq(h:R B H w G){t ty:TypeId}{x c:AV}{Y:Value}(F:VR G x Y)(I:zc0 P H t x=some c):∃v,(Builtin.len_ #[t] ty #[Y]).run P w=.ok v w/\VR G c v:=by
 unfold zc0 at I;split at I
 .rename_i hd;split at I
  .simp only[az]at I;subst I;cases F with
   |str M _ K=>
    subst K;refine⟨_,?_,.int _ _⟩;rw[Lp];simp[Builtin.len_,zdB hd,goInt]
  .simp at I
 .rename_i e hd;split at I
  .simp only[az]at I;subst I;cases F;exact⟨_,tA,.int _ _⟩
  .simp only[az]at I;subst I;cases F
   .exact⟨_,tA,.int _ _⟩
   .exact⟨_,tA,.int _ _⟩
  .simp only[az]at I;subst I;cases F;exact⟨_,tA,.int _ _⟩
  .simp at I
 .rename_i n e hd;simp only[az]at I;subst I;refine⟨.int .i64 n,?_,.int _ _⟩;simp only[Builtin.len_];simp[zdB hd,goInt]
 .rename_i Z e hd;split at I
  .rename_i U L;simp only[az]at I;subst I;rcases CZ h F L with⟨rfl,rfl⟩|⟨r,b,o,V,ms,O,rfl,rfl,hr,A,J,W⟩
   .exact⟨_,tA,.int _ _⟩
   .refine⟨.int .i64 U.length,?_,.int _ _⟩;have:ms.size=U.length:=by have:=W.1;simpa using this.symm
    simp[Builtin.len_,zdB hd,tF J,goInt,this]
  .simp at I
 .simp at I
theorem Lr{K:Bool}{x y c:AV}{Y A:Value}(F:VR G x Y)(Z:VR G y A)(h:mm K x y=some c):∃v,((if K then Builtin.max2 else Builtin.min2) Y A).run P w=.ok v w/\VR G c v:=by
 unfold mm at h;split at h
 .simp only[az]at h;subst h;cases F;cases Z;cases K
  .refine⟨_,rfl,?_⟩;simp only[cr,ck,jq];exact .int _ _
  .refine⟨_,rfl,?_⟩;simp only[bT,jq];exact .int _ _
 .simp at h
theorem yV{K:Bool}:∀{C:List AV}{V:List Value}{x c:AV}{Y:Value},VR G x Y->bO G C V->ot K x C=some c ->
 ∃v,(V.foldlM (if K then Builtin.max2 else Builtin.min2) Y).run P w=.ok v w/\VR G c v
 |[],V,x,c,Y,hx,hxs,h=>by
  simp only[ot,az]at h;subst h;have:V=[]:=by have:=hxs.1;simpa using this.symm
  subst this;exact⟨Y,rfl,hx⟩
 |y::ys,[],_,_,_,_,hxs,_=>by have:=hxs.1;simp at this
 |y::ys,yv::yvs,x,c,Y,hx,hxs,h=>by
  obtain⟨i,g⟩:=hxs.of_cons;simp only[ot]at h;split at h
  .rename_i z m;obtain⟨I,W,Z⟩:=Lr (P:=P) (w:=w) hx i m;obtain⟨v,zdc,zc8⟩:=yV Z g h;exact⟨v,by rw[List.foldlM_cons,dI,W];exact zdc,zc8⟩
  .simp at h
theorem yW{t:TypeId}{d:TypeDesc}(h:zeZ P t=some d):P.underlying t=some d/\((∃k,d=.int k)\/d=.string\/d=.bool):=by
 unfold zeZ at h;split at h<;>simp only[az,reduceCtorEq]at h<;>subst h
 .rename_i k hd;exact⟨hd,.inl ⟨k,rfl⟩⟩
 .rename_i hd;exact⟨hd,.inr (.inl rfl)⟩
 .rename_i hd;exact⟨hd,.inr (.inr rfl)⟩
theorem yX{d:TypeDesc}{x y:AV}{Y A:Value}{r:Bool}(F:VR G x Y)(K:VR G y A)(h:kS d x y=some r):Instr.sameNow d Y A=some r:=by
 unfold kS at h;split at h
 .split at h
  .cases F;cases K;exact h
  .simp at h
 .split at h
  .cases F with
   |str a _ Z=>cases K with
    |str b _ z=>
     subst Z z;simp only[az]at h;subst h;simp only[Instr.sameNow,az];show(a.data == b.data)=(a.data.toList == b.data.toList);rw[tt];simp only[k1,Array.toList_inj]
  .simp at h
 .split at h
  .cases F;cases K;exact h
  .simp at h
 .simp at h
theorem yY{d:TypeDesc}{k:AV}{kv:Value}(Y:VR G k kv):∀{U:List (AV×AV)}{ms:List MapEntry}{i:Nat},nE G U ms ->
 (zdT d k U i=some none->Instr.findNow d kv ms i=some none) /\
 (∀j v,zdT d k U i=some (some (j,v))->∃k' m,U[j-i]?=some (k',v)/\ms[j-i]?=some m/\i<=j/\kS d k k'=some true/\Instr.findNow d kv ms i=some (some (j,m.val)))
 |[],ms,i,he=>by
  have:ms=[]:=by have:=he.1;simpa using this.symm
  subst this;exact⟨fun _=>rfl,fun j v h=>by simp[zdT]at h⟩
 |e::U,[],i,he=>by have:=he.1;simp at this
 |(k',J)::U,m::ms,i,he=>by
  obtain⟨W,g⟩:=he.2 0 (k',J) m rfl rfl;have V:nE G U ms:=⟨by simpa using he.1,fun j a b F z=>he.2 (j+1) a b (by simpa using F) (by simpa using z)⟩;obtain⟨zct,r2⟩:=yY (d:=d) Y (i:=i+1) V;constructor
  .intro h;simp only[zdT]at h;split at h
   .simp at h
   .rename_i Z;have:=yX Y W Z;simp only[Instr.findNow,this];exact zct h
   .simp at h
  .intro j v h;simp only[zdT]at h;split at h
   .rename_i Z;simp only[ci]at h;obtain⟨rfl,rfl⟩:=h;have:=yX Y W Z;exact⟨k',m,aD,aD,aM _,Z,by simp only[Instr.findNow,this]⟩
   .rename_i Z;have:=yX Y W Z;obtain⟨zc8,A,M,L,C,I,K⟩:=r2 j v h;have O:j-i=(j-(i+1))+1:=ac;refine⟨zc8,A,by rw[O];simpa using M,by rw[O];simpa using L,ac,I,?_⟩;simp only[Instr.findNow,this];exact K
   .simp at h
theorem Ls(n:Nat){L:TypeId}{d:TypeDesc}(hd:zeZ P L=some d)(e:Bool)(kv:Value):(Instr.checkKey e (n+1) L kv).run P w=.ok () w:=by
 obtain⟨i,g⟩:=yW hd;simp only[Instr.checkKey,dI,zdB i,dN];rcases g with⟨k,rfl⟩|rfl|rfl<;>rfl
theorem tG{L:TypeId}{d:TypeDesc}(hd:zeZ P L=some d)(e:Bool)(kv:Value):(Instr.checkKey e 10000 L kv).run P w=.ok () w:=Ls 9999 hd e kv
theorem tH{L:TypeId}{d:TypeDesc}(hd:P.underlying L=some d){kv:Value}{ms:List MapEntry}{r:Option (Nat×Value)}(h:Instr.findNow d kv ms 0=some r):(Instr.findKey L kv ms).run P w=.ok r w:=by
 simp[Instr.findKey,zdB hd,h]
theorem Lt{t L e:TypeId}{d:TypeDesc}(hd:P.underlying t=some (.map L e))(Z:zeZ P L=some d){mv kv:Value}{ok:Bool}{ms:Array MapEntry}
 (M:(mv=.map none/\ms=#[])\/∃b O,mv=.map (some b)/\w.heap[b]?=some (.map ms O)) :
 (∀j v,Instr.findNow d kv ms.toList 0=some (some (j,v))->(Instr.lookup t mv kv ok).run P w=.ok (if ok then .tuple #[v,.bool true]else v) w) /\
 (∀I,(zeroValue e).run P w=.ok I w->Instr.findNow d kv ms.toList 0=some none->(Instr.lookup t mv kv ok).run P w=.ok (if ok then .tuple #[I,.bool false]else I) w):=by
 have J:=(yW Z).1;rcases M with⟨rfl,rfl⟩|⟨b,O,rfl,W⟩
 .refine⟨fun j v i=>by simp[Instr.findNow]at i,fun I m i=>?_⟩;have Y:=tH (P:=P) (w:=w) J i;simp only[Instr.lookup,dI,zdB hd,dN,il,tG Z,Y,m]
 .refine⟨fun j v i=>?_,fun I m i=>?_⟩
  .have Y:=tH (P:=P) (w:=w) J i;simp only[Instr.lookup,dI,zdB hd,dN,tF W,il,tG Z,Y]
  .have Y:=tH (P:=P) (w:=w) J i;simp only[Instr.lookup,dI,zdB hd,dN,tF W,il,tG Z,Y,m]
theorem Lu(h:R B H w G){t:TypeId}{m k c:AV}{mv kv:Value}{ok:Bool}(U:VR G m mv)(F:VR G k kv)(I:zeD P H t m k ok=some c):
 ∃v,(Instr.lookup t mv kv ok).run P w=.ok v w/\VR G c v:=by
 unfold zeD at I;split at I
 .rename_i kt e hd;split at I
  .rename_i C J W K;obtain⟨ms,Y,M⟩:∃ms:Array MapEntry,((mv=.map none/\ms=#[])\/∃b O,mv=.map (some b)/\w.heap[b]?=some (.map ms O))/\nE G C ms.toList:=by
    rcases CZ h U W with⟨rfl,rfl⟩|⟨r,b,o,xx,ms,O,rfl,rfl,hr,hg,hw,he⟩
    .exact⟨#[],.inl ⟨rfl,rfl⟩,rfl,aD⟩
    .exact⟨ms,.inr ⟨b,O,rfl,hw⟩,he⟩
   obtain⟨A,z⟩:=yY (d:=J) F (i:=0) M;obtain⟨zct,r2⟩:=Lt (kv:=kv) (ok:=ok) hd K Y;split at I
   .rename_i j v Z;simp only[az]at I;subst I;obtain⟨k',g,g1,g2,_,_,g5⟩:=z j v Z;have L:=(M.2 _ _ _ g1 g2).2;refine⟨_,zct _ _ g5,?_⟩;cases ok
    .exact L
    .exact .tup (vs:=[g.val,.bool true]) rfl (jJ L (jJ (.bool true) (lL _))).2
   .rename_i Z;split at I
    .rename_i v L;simp only[az]at I;subst I;obtain⟨zv,z1,V⟩:=KZ L;refine⟨_,r2 _ (z1 w) (A Z),?_⟩;cases ok
     .exact V G
     .exact .tup (vs:=[zv,.bool false]) rfl (jJ (V G) (jJ (.bool false) (lL _))).2
    .simp at I
   .simp at I
  .simp at I
 .simp at I
end
section
variable {P:Program} {B:Bs} {G:Gh} {H H':Hp} {w:World}
theorem C0(h:R B H w G){r b o x:Nat}{es L:List (AV×AV)}{ms':Array MapEntry}{clock':Nat}(hr:G.β r=some (b,o,x))(hg:H.get r=some (.map es))(he:nE G L ms'.toList):
 Step B H.next G w (H.set r (.map L)) {w with heap:=w.heap.setIfInBounds b (.map ms' clock') } G:=by
 obtain⟨ms,clock,hw,_⟩:=h.map r b o x es hr hg;have hb:b<w.heap.size:=(h.lt r b o x hr).2
 let w':World:={w with heap:=w.heap.setIfInBounds b (.map ms' clock') }
 have M:∀k,k≠b->w'.heap[k]?=w.heap[k]?:=fun k Y=>by
  show(w.heap.setIfInBounds b _)[k]?=_;rw[re,ah (Ne.symm Y)]
 have hheapb:w'.heap[b]?=some (.map ms' clock'):=by
  show(w.heap.setIfInBounds b _)[b]?=_;simp[hb]
 have z:∀i U v,w.cell? ⟨i,U,none⟩=some v->i≠b:=fun i U v hc e=>by
  subst e;unfold World.cell? at hc;rw[hw]at hc;simp at hc
 have C:∀i U v,w.cell? ⟨i,U,none⟩=some v->w'.cell? ⟨i,U,none⟩=some v:=fun i U v hc=>by
  rw[World.cell?_of_block (w:=w) (M i (z i U v hc))];exact hc
 have g:∀k,k≠r->(H.set r (.map L)).get k=H.get k:=fun k Y=>by rw[aU,ah Y]
 have Z:(H.set r (.map L)).get r=some (.map L):=hB;refine⟨?_,rg _,⟨rfl,rfl,rfl,aD,fun k Y hn=>M k (fun e=>hn r b o x hr e.symm)⟩,pC _ _,fun _ _ h=>.inl h,aM _,fun _ _ _ h=>.inl h⟩;exact{
  base:=by have:=h.base;simpa using this
  dom:=h.dom
  lt:=fun r b o x hr=>by have:=h.lt r b o x hr;simpa using this
  cells:=fun k i U V K imm O Y hc=>by
   by_cases e:k=r
   .subst e;rw[Z]at hc;simp at hc
   .rw[g k e]at hc;intro j c hj;obtain⟨v,h1,h2⟩:=h.cells k i U V K imm O Y hc j c hj;exact⟨v,C _ _ _ h1,h2⟩
  imm:=fun k i U V K imm O Y hc=>by
   by_cases e:k=r
   .subst e;rw[Z]at hc;simp at hc
   .rw[g k e]at hc;exact h.imm k i U V K imm O Y hc
  ext:=fun k i U V K imm O Y hc=>by
   by_cases e:k=r
   .subst e;rw[Z]at hc;simp at hc
   .rw[g k e]at hc;exact h.ext k i U V K imm O Y hc
  fits:=fun k i U V K imm O Y hc=>by
   by_cases e:k=r
   .subst e;rw[Z]at hc;simp at hc
   .rw[g k e]at hc;exact h.fits k i U V K imm O Y hc
  room:=fun k i U V K imm O Y hc j hj hjl=>by
   by_cases e:k=r
   .subst e;rw[Z]at hc;simp at hc
   .rw[g k e]at hc;obtain⟨⟨v,h1⟩,h2,h3⟩:=h.room k i U V K imm O Y hc j hj hjl;refine⟨⟨v,C _ _ _ h1⟩,?_,h3⟩;rw[World.frozen?_of_block (w:=w) (M i (z _ _ _ h1))];exact h2
  apart:=fun zdc b1 o1 x1 cs1 imm1 tip1 zc8 b2 o2 x2 cs2 imm2 tip2 J W I F=>by
   by_cases e1:zdc=r
   .subst e1;rw[Z]at W;simp at W
   .by_cases e2:zc8=r
    .subst e2;rw[Z]at F;simp at F
    .rw[g zdc e1]at W;rw[g zc8 e2]at F;exact h.apart zdc b1 o1 x1 cs1 imm1 tip1 zc8 b2 o2 x2 cs2 imm2 tip2 J W I F
  map:=fun k i U V A Y hc=>by
   by_cases e:k=r
   .subst e;have hk':=Y;rw[hr]at hk';simp only[ci]at hk';obtain⟨rfl,rfl,rfl⟩:=hk';rw[Z]at hc;simp only[az,HB.map.injEq]at hc;subst hc;exact⟨ms',clock',hheapb,he⟩
   .rw[g k e]at hc;obtain⟨ms1,m,h1,h2⟩:=h.map k i U V A Y hc;refine⟨ms1,m,?_,h2⟩;rw[M i (fun eb=>h.mapApart k i U V A r b o x Y hc hr (by rw[hg];rfl) e eb)];exact h1
  mapApart:=fun zdc b1 o1 x1 A zc8 b2 o2 x2 J W I hs hne=>by
   have hs':(H.get zc8).isSome:=by
    by_cases e2:zc8=r
    .subst e2;rw[hg];rfl
    .rw[g zc8 e2]at hs;exact hs
   by_cases e1:zdc=r
   .subst e1;exact h.mapApart zdc b1 o1 x1 es zc8 b2 o2 x2 J hg I hs' hne
   .rw[g zdc e1]at W;exact h.mapApart zdc b1 o1 x1 A zc8 b2 o2 x2 J W I hs' hne
  frz:=fun i U v hf=>C _ _ _ (h.frz i U v hf)
  val:=h.val
  sym:=h.sym}
theorem C1{b:Nat}{ms ms':Array MapEntry}{O clock':Nat}(h:w.heap[b]?=some (.map ms O)):
 (setObj b (.map ms' clock')).run P w=.ok () {w with heap:=w.heap.setIfInBounds b (.map ms' clock') }:=by
 simp[setObj,Sem.run,h]
theorem Lw(n:Nat){d:TypeDesc}{x y:AV}{Y A:Value}(F:VR G x Y)(K:VR G y A)(h:kS d x y=some true):Instr.sameBits n A Y=true:=by
 unfold kS at h;split at h
 .split at h
  .split at h
   .rename_i e;subst e;cases F;cases K;simp only[az,k1]at h;subst h;cases n<;>simp[Instr.sameBits]
   .simp at h
  .simp at h
 .split at h
  .cases F with
   |str a _ Z=>cases K with
    |str b _ z=>
     subst Z z;simp only[az,k1]at h;have g:(b == a)=true:=by
      show(b.data == a.data)=true;simp only[k1];exact(k0 h).symm
     cases n<;>simp[Instr.sameBits,g]
  .simp at h
 .split at h
  .cases F;cases K;simp only[az,k1]at h;subst h;cases n<;>simp[Instr.sameBits]
  .simp at h
 .simp at h
theorem Ly{i K:Value}(h:Instr.sameBits 10000 i K=true):(Instr.keyThatStays i K).run P w=.ok K w:=by
 unfold Instr.keyThatStays;rw[ax h];rfl
theorem Lz(h:R B H w G){t:TypeId}{m k v:AV}{mv kv L:Value}(hm:VR G m mv)(C:VR G k kv)(hv:VR G v L)(I:ze2 P H t m k v=some H'):
 ∃w',(Instr.mapUpdate t mv kv L).run P w=.ok () w'/\Step B H.next G w H' w' G:=by
 unfold ze2 at I;split at I
 .rename_i kt e hd;split at I
  .rename_i r J K;split at I
   .rename_i g hg;cases hm with
    |map hr=>
     rename_i b o x;obtain⟨ms,O,A,M⟩:=h.map r b o x g hr hg;obtain⟨f1,f2⟩:=yY (d:=J) C (i:=0) M;have W:=(yW K).1;split at I
     .rename_i j v0 hf;simp only[az]at I;subst I;obtain⟨k',m',g1,z,_,g4,g5⟩:=f2 j v0 hf;simp only[vL]at g1 z;have hjl:j<ms.size:=by have:=(dD.1 z).1;simpa using this
      have V:ms[j]?=some m':=by simpa using z
      have Z:=Lw 10000 C (M.2 j _ _ g1 z).1 g4;have Y:=tH (P:=P) (w:=w) W g5;refine⟨_,?_,C0 h hr hg (ms':=ms.modify j fun e=>{e with key:=kv,val:=L}) (clock':=O) ?_⟩
      .simp only[Instr.mapUpdate,dI,zdB hd,dN,tF A,tG K,Y,V,jp,a3,Ly Z,C1 A]
      .refine⟨by have:=M.1;simpa using this,fun i a c F hc=>?_⟩;rw[oB]at F;rw[tE,Array.getElem?_modify]at hc;by_cases e:j=i
       .subst e;rw[ax rfl]at hc;rw[ax rfl]at F;split at F
        .simp only[az]at F;subst F;rw[V]at hc;simp only[jp,az]at hc;subst hc;exact⟨C,hv⟩
        .simp at F
       .rw[ah e]at F hc;exact M.2 i a c F vC
     .rename_i hf;simp only[az]at I;subst I;have Y:=tH (P:=P) (w:=w) W (f1 hf);refine⟨_,?_,C0 h hr hg (ms':=ms.push {key:=kv,val:=L,born:=O}) (clock':=O+1) ?_⟩
      .simp only[Instr.mapUpdate,dI,zdB hd,dN,tF A,tG K,Y,C1 A]
      .refine⟨by have:=M.1;simpa using this,fun i a c F hc=>?_⟩;rw[Array.toList_push]at hc;have hl:=M.1;by_cases hi:i<g.length
       .rw[i7 hi]at F;rw[i7 ac]at hc;exact M.2 i a c F hc
       .rw[jI ac]at F;rw[jI ac]at hc;rw[<-hl]at hc;cases U:i-g.length with
        |zero=>
         rw[U]at F hc;simp at F hc;subst F hc;exact⟨C,hv⟩
        |succ n=>rw[U]at F;simp at F
     .simp at I
   .simp at I
  .simp at I
 .simp at I
theorem C2:∀{W:List AV}{bs:List UInt8}{vs:List Value},pt W=some bs->bO G W vs->∃U:List Int,vs=U.map (Value.int .u8)/\bs=U.map fun n=>UInt8.ofNat n.toNat
 |[],bs,vs,h,hv=>by
  simp only[pt,az]at h;subst h;have:vs=[]:=by have:=hv.1;simpa using this.symm
  subst this;exact⟨[],rfl,rfl⟩
 |c::W,bs,[],h,hv=>by have:=hv.1;simp at this
 |c::W,bs,v::vs,h,hv=>by
  obtain⟨i,g⟩:=hv.of_cons;unfold pt at h;split at h
  .rename_i e;simp at e
  .rename_i n m e;simp only[cM]at e;obtain⟨rfl,rfl⟩:=e;split at h
   .rename_i Z z;simp only[az]at h;subst h;obtain⟨U,rfl,rfl⟩:=C2 z g;cases i;exact⟨n::U,rfl,rfl⟩
   .simp at h
  .simp at h
theorem LA(U:List Int):∀s:ByteArray,(U.foldl (fun r n=>r.push (UInt8.ofNat n.toNat)) s).data.toList=s.data.toList++U.map fun n=>UInt8.ofNat n.toNat:=by
 induction U with
 |nil=>intro s;simp
 |cons n U ih=>intro s;rw[List.foldl_cons,ih];simp[ByteArray.push]
theorem LB(h:R B H w G){Y j:TypeId}{x c:AV}{V:Value}(F:VR G x V)(O:zeI P H Y j x=some c):∃v,(convert Y j V).run P w=.ok v w/\VR G c v:=by
 unfold zeI at O;split at O
 .rename_i e K hd;split at O
  .rename_i L;split at O
   .rename_i n cs C;split at O
    .rename_i bs m;obtain⟨nv,z,g,M,h4⟩:=yU (P:=P) h F C;obtain⟨U,W,rfl⟩:=C2 m z;split at O
     .simp only[az]at O;subst O;cases F with
      |sl hr hl hcx=>
       rename_i b o xx J;have Z:=M w;simp[Builtin.lenOf]at Z;subst Z;have i:=h4 w (fun _=>rfl);simp only[Builtin.firstCells,gg]at i;rw[W]at i;refine⟨_,by rw[run_convert_bytes_string w Y j e _ _ _ K L hd,run_bytesToString w _ _ _ U i],.str _ _ ?_⟩;rw[LA];rfl
     .simp only[az]at O;subst O;cases F;have Z:=M w;simp[Builtin.lenOf]at Z;have:U=[]:=by
       have e1:(U.map (Value.int .u8)).length=0:=by rw[<-W,g,<-Z]
       simpa using e1
      subst this;refine⟨.string .empty,?_,.str _ _ rfl⟩;rw[run_convert_bytes_string w Y j e _ _ _ K L hd];rfl
     .simp at O
    .simp at O
   .simp at O
  .simp at O
 .rename_i ds k A K hd;split at O
  .simp only[az]at O;subst O;cases F;refine⟨_,?_,.int _ _⟩;simp[convert,zdB K,zdB hd,Conv.intToInt]
  .simp only[az]at O;subst O;cases F;rename_i zdz e0;refine⟨_,?_,.sx _ _⟩;simp[convert,zdB K,zdB hd,Conv.intToInt,Sx.eval]
  .simp at O
 .rename_i A K hd;split at O
  .simp only[az]at O;subst O;have I:=F;cases F with
   |str sv _ L=>
    refine⟨.string sv,?_,I⟩;simp[convert,zdB K,zdB hd]
  .simp at O
 .simp at O
end
section
variable {P:Program} {B:Bs} {G:Gh} {H H':Hp} {w:World}
def pI(G:Gh)(E:ao)(a:Act)(xs:Array Operand):Prop:=∀x∈xs,∀c,zcp E x=some c->VR G c (a.eval x)
theorem vR{E:ao}{a:Act}:∀{C:List Operand}{W:List AV},(∀x∈C,∀c,zcp E x=some c->VR G c (a.eval x))->zeq E C=some W->bO G W (C.map a.eval)
 |[],W,_,h=>by
  simp only[zeq,az]at h;subst h;exact lL G
 |x::C,W,hk,h=>by
  simp only[zeq]at h;split at h
  .rename_i v vs L m;simp only[az]at h;subst h;exact jJ (hk x aD v L) (vR (fun y K=>hk y (by simp[K])) m)
  .simp at h
theorem zeV{s:Sem Value}{c:AV}(h:R B H w G)(K:∃v,s.run P w=.ok v w/\VR G c v):pE P B H G w (do pure (.value (<-s))) c H:=by
 obtain⟨v,i,g⟩:=K;exact⟨.value v,w,G,v,by simp[i],.inl rfl,g,i8 h⟩
theorem rA{s:Sem Value}{c:AV}(K:∃v W Z,s.run P w=.ok v W/\VR Z c v/\Step B H.next G w H' W Z):pE P B H G w (do pure (.value (<-s))) c H':=by
 obtain⟨v,W,Z,i,g,o⟩:=K;exact⟨.value v,W,Z,v,by simp[i],.inl rfl,g,o⟩
theorem C3{s:Sem Unit}(K:∃W,s.run P w=.ok () W/\Step B H.next G w H' W G):pE P B H G w (do s;pure .skip) zdx H':=by
 obtain⟨W,i,g⟩:=K;exact⟨.skip,W,G,undef,by simp[i],.inr ⟨rfl,rfl⟩,tv G,g⟩
theorem C4{E:ao}{a:Act}{x:Option Operand}{c:Option AV}(j:∀y∈x.toArray,∀c,zcp E y=some c->VR G c (a.eval y))(h:zeJ E x=some c):pH G c (x.map a.eval):=by
 unfold zeJ at h;split at h
 .simp only[az]at h;subst h;exact trivial
 .rename_i y;split at h
  .rename_i v L;simp only[az]at h;subst h;exact j y aD v L
  .simp at h
theorem LC{D:BinOp->Sx->Sx->Option Bool}{E:ao}{a:Act}{o:Oper}{c:AV}(j:ox o=true)(M:pI G E a o.op.operands)(Y:cq P D E H o.op=some (c,H')):lM P G w (execOp a.eval o) Next.value c H H':=by
 obtain⟨U,K,ty,J,W,guard⟩:=o;simp only[]at Y M;cases K<;>simp only[ox,zed,cr]at j
 case alloc t=>
  simp only[cq]at Y;unfold s8 at Y;split at Y
  .rename_i z m;simp only[ci]at Y;obtain⟨rfl,rfl⟩:=Y;obtain⟨I,C,F⟩:=tz m;refine lM.next ⟨.cells z 0 true,.cells (I.cells.toList++[]).toArray t,I.cells.toList.length+0,.pointer (some ⟨w.heap.size,0,none⟩),rfl,?_,.cells z I.cells.toList [] t (F G),fun Z hG=>.ptr (off:=0) hG⟩
   simp[Instr.alloc,C,newVar,newRow]
  .simp at Y
 case box t x=>
  simp only[cq]at Y;unfold s9 at Y;split at Y
  .rename_i v L;simp only[ci]at Y;obtain⟨rfl,rfl⟩:=Y;have hx:=(M x dO _ L).cells;refine lM.next ⟨.cells v.cells 0 true,.cells ((a.eval x).cells.toList++[]).toArray t,(a.eval x).cells.toList.length+0,.pointer (some ⟨w.heap.size,0,none⟩),rfl,?_,.cells v.cells _ [] t hx,fun Z hG=>.ptr (off:=0) hG⟩
   simp[Instr.box,newVar,newRow]
  .simp at Y
 case buildSlice t len parts=>
  simp only[cq]at Y;unfold ta at Y;split at Y
  .rename_i ps O;obtain⟨A,g⟩:=vP (G:=G) (a:=a) (fun p hp=>M p.2 yL) O;have:=CT (P:=P) (w:=w) A g Y;have he:(parts.toList.map fun x=>(x.1,a.eval x.2)).toArray=parts.map fun(i,x)=>(i,a.eval x):=by
    apply k0;simp
   rw[he]at this;exact this.next
  .simp at Y
 case makeMap t r=>
  simp only[cq]at Y;unfold te at Y;split at Y
  .simp only[ci]at Y;obtain⟨rfl,rfl⟩:=Y;refine lM.next ⟨.map [],.map #[] 0,0,.map (some w.heap.size),rfl,?_,.map,fun Z hG=>.map hG⟩
   simp[Instr.makeMap]
  .simp at Y
 case makeSlice t l c'=>
  simp only[cq]at Y;unfold tf at Y;split at Y
  .rename_i lv cv V hc;exact(CU (M l dO _ V) (M c' dO _ hc) Y).next
  .simp at Y
 case call cl=>
  simp only[cq,reduceCtorEq]at Y
theorem LD(h:R B H w G){E:ao}{a:Act}{o:Oper}{c:AV}(M:pI G E a o.op.operands)(Y:cq P B.cfg.dec E H o.op=some (c,H')):pE P B H G w (execOp a.eval o) c H':=by
 obtain⟨dst,op,ty,pos,after,guard⟩:=o;simp only[]at Y M;cases op<;>simp only[cq,reduceCtorEq]at Y
 case move x=>
  obtain⟨Z,rfl⟩:=zeR Y;exact rq h rfl (M x dO _ Z)
 case assign x=>
  obtain⟨Z,rfl⟩:=zeR Y;exact rq h rfl (M x dO _ Z)
 case pick x y z=>
  unfold vk at Y;split at Y
  .rename_i hc;obtain⟨Z,rfl⟩:=zeR Y;have J:=M x dO _ hc;have:a.eval x=.bool true:=by generalize a.eval x=v at J;cases J;rfl
   exact rq h (v:=a.eval y) (by simp[execOp,asBool,this]) (M y dO _ Z)
  .rename_i hc;obtain⟨Z,rfl⟩:=zeR Y;have J:=M x dO _ hc;have:a.eval x=.bool false:=by generalize a.eval x=v at J;cases J;rfl
   exact rq h (v:=a.eval z) (by simp[execOp,asBool,this]) (M z dO _ Z)
  .simp at Y
 case alloc t=>
  unfold s8 at Y;split at Y
  .rename_i z hz;simp only[ci]at Y;obtain⟨rfl,rfl⟩:=Y;obtain⟨zv,z1,z2⟩:=tz hz;have K:=vG h (z2 G) [] t;rw[br,ry]at K;refine rA ⟨.pointer (some ⟨w.heap.size,0,none⟩),_,_,?_,?_,K⟩
   .simp[Instr.alloc,z1,newVar,newRow]
   .exact .ptr (off:=0) (jC _ _ _)
  .simp at Y
 case box t x=>
  unfold s9 at Y;split at Y
  .rename_i v L;simp only[ci]at Y;obtain⟨rfl,rfl⟩:=Y;have K:=vG h (M x dO _ L).cells [] t;rw[br,ry]at K;refine rA ⟨.pointer (some ⟨w.heap.size,0,none⟩),_,_,?_,?_,K⟩
   .simp[Instr.box,newVar,newRow]
   .exact .ptr (off:=0) (jC _ _ _)
  .simp at Y
 case build t parts=>
  unfold vm at Y;split at Y
  .rename_i ps O;obtain⟨Z,rfl⟩:=zeR Y;obtain⟨q1,q2⟩:=vP (G:=G) (a:=a) (fun p hp=>M p.2 yL) O;have:=Lj (P:=P) (w:=w) q1 q2 Z;have I:(parts.toList.map fun x=>(x.1,a.eval x.2)).toArray=parts.map fun(i,x)=>(i,a.eval x):=by
    apply k0;simp
   rw[I]at this;exact zeV h this
  .simp at Y
 case buildSlice t len parts=>
  unfold ta at Y;split at Y
  .rename_i ps O;obtain⟨q1,q2⟩:=vP (G:=G) (a:=a) (fun p hp=>M p.2 yL) O;have:=(CT (P:=P) (w:=w) q1 q2 Y).sim h;have I:(parts.toList.map fun x=>(x.1,a.eval x.2)).toArray=parts.map fun(i,x)=>(i,a.eval x):=by
    apply k0;simp
   rw[I]at this;exact rA this
  .simp at Y
 case load t x=>
  unfold tc at Y;split at Y
  .rename_i v L;obtain⟨Z,rfl⟩:=zeR Y;exact zeV h (CK h (M x dO _ L) Z)
  .simp at Y
 case store t x y=>
  unfold vn at Y;split at Y
  .rename_i av vv ha L;split at Y
   .rename_i H1 A;simp only[ci]at Y;obtain⟨rfl,rfl⟩:=Y;exact C3 (K0 h (M x dO _ ha) (M y dO _ L) A)
   .simp at Y
  .simp at Y
 case nilCheck x=>
  unfold vo at Y;split at Y
  .rename_i r off L;simp only[ci]at Y;obtain⟨rfl,rfl⟩:=Y;have F:=M x dO _ L;refine rq h (v:=a.eval x) ?_ F;simp only[execOp];generalize a.eval x=v at F⊢;cases F;rfl
  .rename_i cs L;simp only[ci]at Y;obtain⟨rfl,rfl⟩:=Y;have F:=M x dO _ L;refine rq h (v:=a.eval x) ?_ F;simp only[execOp];generalize a.eval x=v at F⊢;cases F;rfl
  .simp at Y
 case binOp op t x y yt=>
  unfold vp at Y;split at Y
  .rename_i V yv F U;obtain⟨Z,rfl⟩:=zeR Y;exact zeV h (Lf (by rw[h.val];exact h.sym) (M x dO _ F) (M y dO _ U) Z)
  .simp at Y
 case unOp op t x=>
  unfold vq at Y;split at Y
  .rename_i V F;obtain⟨Z,rfl⟩:=zeR Y;exact zeV h (Lg (M x dO _ F) Z)
  .simp at Y
 case convert s d x=>
  unfold td at Y;split at Y
  .rename_i V F;obtain⟨Z,rfl⟩:=zeR Y;exact zeV h (LB h (M x dO _ F) Z)
  .simp at Y
 case makeFunc fn first captured=>
  unfold vr at Y;split at Y
  .rename_i f vs W j;simp only[ci]at Y;obtain⟨rfl,rfl⟩:=Y;have hf:first=#[]:=by apply k0;simpa using W
   subst hf;have:=vR (G:=G) (a:=a) (fun x F=>M x (by simp[Op.operands];simpa using F)) j;refine zeV h ⟨.func (.func f) #[] (captured.map a.eval),by simp[Instr.makeFunc],?_⟩;have I:captured.map a.eval=(captured.toList.map a.eval).toArray:=yM;rw[I];exact .clo this.1 this.2
  .simp at Y
 case makeMap t r=>
  unfold te at Y;split at Y
  .simp only[ci]at Y;obtain⟨rfl,rfl⟩:=Y;exact rA ⟨.map (some w.heap.size),_,_,by simp[Instr.makeMap],.map (jC _ _ _),KP h⟩
  .simp at Y
 case makeSlice t l c'=>
  unfold tf at Y;split at Y
  .rename_i lv cv g hc;exact rA ((CU (M l dO _ g) (M c' dO _ hc) Y).sim h)
  .simp at Y
 case slice t x lo C mx=>
  unfold tg at Y;split at Y
  .rename_i V l hh F g hi';obtain⟨Z,rfl⟩:=zeR Y;exact zeV h (Lm h (M x dO _ F) (C4 (fun y U=>M y (by simp[Op.operands]at *;simp[U])) g) (C4 (fun y U=>M y (by simp[Op.operands]at *;simp[U])) hi') Z)
  .simp at Y
 case fieldAddr t x f=>
  unfold vt at Y;split at Y
  .rename_i V F;obtain⟨Z,rfl⟩:=zeR Y;exact zeV h (K1 (M x dO _ F) Z)
  .simp at Y
 case field t x f=>
  unfold vu at Y;split at Y
  .rename_i V F;obtain⟨Z,rfl⟩:=zeR Y;exact zeV h (K2 (M x dO _ F) Z)
  .simp at Y
 case indexAddr t x i=>
  unfold vw at Y;split at Y
  .rename_i V iv F C;obtain⟨Z,rfl⟩:=zeR Y;exact zeV h (K3 (M x dO _ F) (M i dO _ C) Z)
  .simp at Y
 case index t x i=>
  unfold vx at Y;split at Y
  .rename_i V iv F C;obtain⟨Z,rfl⟩:=zeR Y;exact zeV h (K4 (M x dO _ F) (M i dO _ C) Z)
  .simp at Y
 case lookup t m k ok=>
  unfold th at Y;split at Y
  .rename_i mv kv hm hk;obtain⟨Z,rfl⟩:=zeR Y;exact zeV h (Lu h (M m dO _ hm) (M k dO _ hk) Z)
  .simp at Y
 case mapUpdate t m k v=>
  unfold vy at Y;split at Y
  .rename_i mv kv vv hm hk L;split at Y
   .rename_i H1 A;simp only[ci]at Y;obtain⟨rfl,rfl⟩:=Y;exact C3 (Lz h (M m dO _ hm) (M k dO _ hk) (M v dO _ L) A)
   .simp at Y
  .simp at Y
 case extract x i=>
  unfold vz at Y;split at Y
  .rename_i V F;obtain⟨Z,rfl⟩:=zeR Y;exact zeV h (K5 (M x dO _ F) Z)
  .simp at Y
theorem LF(h:R B H w G){keep:Bool}{b:Builtin}{O:Array TypeId}{ty:TypeId}{consts:Array Bool}{cs:List AV}{vs:List Value}{c:AV}(L:bO G cs vs)(z:mn P keep H b O.toList cs=some (c,H')):
 pE P B H G w (builtin b O ty consts vs.toArray) c H':=by
 unfold mn at z;split at z
 .split at z
  .rename_i t u s x o;have Z:O=#[t,u]:=by apply k0;simpa using o
   subst Z
   match vs,L with
   |[F,Y],L=>
    obtain⟨i,g⟩:=L.of_cons;obtain⟨W,_⟩:=g.of_cons;exact rA (Lo h i W z)
   |[],L=>have:=L.1;simp at this
   |[_],L=>have:=L.1;simp at this
   |_::_::_::_,L=>have:=L.1;simp at this
  .simp at z
 .split at z
  .rename_i t x o;have Z:O=#[t]:=by apply k0;simpa using o
   subst Z;split at z
   .rename_i v I;simp only[ci]at z;obtain⟨rfl,rfl⟩:=z
    match vs,L with
    |[Y],L=>
     obtain⟨i,_⟩:=L.of_cons;exact zeV h (Lq h i I)
    |[],L=>have:=L.1;simp at this
    |_::_::_,L=>have:=L.1;simp at this
   .simp at z
  .simp at z
 .split at z
  .rename_i x C;split at z
   .rename_i v M;simp only[ci]at z;obtain⟨rfl,rfl⟩:=z
    match vs,L with
    |[],L=>have:=L.1;simp at this
    |Y::xvs,L=>
     obtain⟨i,g⟩:=L.of_cons;have:=yV (P:=P) (w:=w) i g M;exact zeV h (by simpa [Builtin.max_]using this)
   .simp at z
  .simp at z
 .split at z
  .rename_i x C;split at z
   .rename_i v M;simp only[ci]at z;obtain⟨rfl,rfl⟩:=z
    match vs,L with
    |[],L=>have:=L.1;simp at this
    |Y::xvs,L=>
     obtain⟨i,g⟩:=L.of_cons;have:=yV (P:=P) (w:=w) i g M;exact zeV h (by simpa [Builtin.min_]using this)
   .simp at z
  .simp at z
 .simp at z
end
def yZ:AX->Exit
 | .normal=>.normal
 | .exit id=>.exit id
 | .ret=>.ret
def iP(B:Bs)(N o:Nat)(G:Gh)(w:World)(x:AX)(F:ao)(H':Hp):Exit->Act->World->Prop:=fun e M W=>
 e=yZ x/\∃Z,TR N Z F M/\Step B o G w H' W Z/\M.defers=[]
structure Fit (P:Program):Prop where
 name:∀(f:FuncId) (fn:Func),P.funcs[f]?=some fn->fn.body.isSome=true->(fn.name == "runtime.NumGoroutine")=false
 mixed:P.follows .mixedOrders=true
structure Snd (P:Program) (B:Bs) (n:Nat) (ih:Task->Res):Prop where
 call:∀f args H r H',ih (.call f args H)=.val r H'->∀G w vs,R B H w G->bO G args vs ->
  (∃fn,P.funcs[f]?=some fn/\fn.body.isSome=true)/\Calls P f vs.toArray w (fun e w'=>∃v G',e=.returned v/\VR G' r v/\Step B H.next G w H' w' G')
 code:∀f N c E H x E' H',ih (.code f N c E H)=.done x E' H'->∀G w a,R B H w G->TR N G E a->a.defers=[]->Code.wp P c (iP B N H.next G w x E' H') a w
 loop:∀f N c E H x E' H',ih (.code f N (.loop c) E H)=.done x E' H'->∀G w a,R B H w G->TR N G E a->a.defers=[]->Code.rounds P c (iP B N H.next G w x E' H') n a w
theorem za{P:Program}{c:Code}{Q z:Exit->Act->World->Prop}(h:∀e a w,Q e a w->z e a w):∀{n:Nat}{a:Act}{w:World},Code.rounds P c Q n a w->Code.rounds P c z n a w
 |0,_,_,hr=>hr
 |n+1,_,_,hr=>by
  rw[rounds_succ]at *;exact oC (fun e a w L=>by
   cases e with
   |normal=>exact za h L
   |_=>exact h _ _ _ L) hr
theorem iP.trans{B:Bs}{N o:Nat}{G Y:Gh}{w w':World}{H' O:Hp}{x:AX}{A:ao}(K:Step B o G w H' w' Y){e:Exit}{a:Act}{Z:World}(h:iP B N H'.next Y w' x A O e a Z):iP B N o G w x A O e a Z:=by
 obtain⟨L,W,i,g,V⟩:=h;exact⟨L,W,i,K.trans g,V⟩
def vT:=@iP.trans
section
variable {P:Program} {B:Bs} {G:Gh} {H H':Hp} {w:World}
theorem zb{N:Nat}{E:ao}{a:Act}(h:TR N G E a){x:Operand}{c:AV}(O:zcp E x=some c):VR G c (a.eval x):=by
 cases x with
 |tmp t=>simp only[zcp,az]at O;subst O;exact h.slots t
 |const v=>exact rj O
 |global g=>simp[zcp]at O
 |func f=>simp only[zcp,az]at O;subst O;exact .clo (vs:=[]) rfl aD
theorem TR.knows{N:Nat}{E:ao}{a:Act}(h:TR N G E a)(xs:Array Operand):pI G E a xs:=fun _ _ _ hc=>zb h hc
theorem LG{E:ao}{a:Act}{d:Nat}(h:VR G (E.at d) (a.tmps.getD d undef)):(match E.at d with|.bool b=>some b |_=>none)=(match a.tmps[d]? with|some (.bool b)=>some b |_=>none):=by
 rw[gF]at h;cases hd:a.tmps[d]? with
 |none=>
  rw[hd]at h;simp only[Option.getD_none,undef]at h;generalize E.at d=c at h;cases h;rfl
 |some v=>
  rw[hd]at h;simp only[a3]at h;generalize E.at d=c at h;cases h<;>rfl
theorem LH{E:ao}{a:Act}{ops:Array Oper}{j:Nat}(h:∀d,(ops[j]?).bind (·.dst)=some d->VR G (E.at d) (a.tmps.getD d undef)):vA ops.toList E j=yielded ops a.tmps j:=by
 unfold vA yielded;rw[tE];cases hd:(ops[j]?).bind (·.dst)with
 |none=>rfl
 |some d=>exact LG (h d hd)
theorem C5{E:ao}{a:Act}{ops:Array Oper}{o:Oper}(h:∀j b d,o.guard=some (j,b)->(ops[j]?).bind (·.dst)=some d->VR G (E.at d) (a.tmps.getD d undef)):zey ops.toList E o=Region.wanted o (yielded ops a.tmps):=by
 unfold zey Region.wanted;cases A:o.guard with
 |none=>rfl
 |some p=>
  obtain⟨j,b⟩:=p;simp only[];rw[LH (fun d hd=>h j b d A hd)];cases yielded ops a.tmps j with
  |none=>rfl
  |some i=>cases b<;>cases i <;>rfl
theorem vU(fit:Fit P){n:Nat}{ih:Task->Res}(hih:Snd P B n ih){f:FuncId}{E:ao}{a:Act}{o:Oper}{c:AV}(h:R B H w G)(i:pI G E a o.op.operands)(Y:zdA P B.cfg ih f E H o.op=.val c H')
 {K:Act->World->Prop}{Q:Exit->Act->World->Prop} (hK:∀v O L,VR L c v->Step B H.next G w H' O L->K (a.put o.dst v) O):o.wp P a w K Q:=by
 have U:∀s:Sem Next,pE P B H G w s c H'->execOp a.eval o=s->o.wp P a w K Q:=fun s hs he=>by
  obtain⟨m,O,L,v,h1,h2,h3,h4⟩:=hs;unfold Oper.wp;rw[he,h1];rcases h2 with rfl|⟨rfl,rfl⟩
  .exact hK v O L h3 h4
  .exact hK undef O L h3 h4
 unfold zdA at Y;split at Y
 .rename_i V J;unfold ou at Y;split at Y
  .rename_i g j;split at Y
   .rename_i k cap vs hgv I;have A:pI G E a V.operands:=by rw[J]at i;exact i
    have hgr:=A g (by simp[Call.operands,j]) _ hgv;have Z:=vR (G:=G) (a:=a) (fun x hx=>A x (by simp[Call.operands,j];exact .inr (by simpa using hx))) I;generalize hge:a.eval g=gv at hgr;cases hgr with
    |clo hl hv=>
     rename_i F;have hall:=Z.append (G:=G) ⟨hl,hv⟩;obtain⟨⟨fn,hfn,C⟩,W⟩:=hih.call _ _ _ _ _ Y G w _ h hall;have z:=fit.name _ _ hfn C;unfold Oper.wp;have hrun:(execOp a.eval o).run P w=.ok (.enter k ((V.args.toList.map a.eval)++F).toArray) w:=by
      have M:V.args.map a.eval=(V.args.toList.map a.eval).toArray:=yM;unfold execOp;rw[J];simp only[dI,resolve,j,hge,Deferred.ofValue,il,dN,invoke,callFunc,run_program,hfn,z];simp only[cr,ck];have hb:fn.body.isNone=false:=by cases hb:fn.body<;>simp_all
      rw[hb];simp[M]
     rw[hrun];show Calls P k _ w _;refine W.mono fun e O hr=>?_;obtain⟨v,L,rfl,h1,h2⟩:=hr;exact hK v O L h1 h2
   .simp at Y
  .rename_i b j;split at Y
   .rename_i vs I;split at Y
    .rename_i v H1 hb;simp only[Res.val.injEq]at Y;obtain⟨rfl,rfl⟩:=Y;have A:pI G E a V.operands:=by rw[J]at i;exact i
     have Z:=vR (G:=G) (a:=a) (fun x hx=>A x (by simp[Call.operands,j];simpa using hx)) I;have hs:=LF (ty:=o.type) (consts:=V.args.map fun|.const _=>true |_=>false) h Z hb;refine U _ hs ?_;have M:V.args.map a.eval=(V.args.toList.map a.eval).toArray:=yM;unfold execOp;rw[J];simp only[resolve,j,M];rfl
    .simp at Y
   .simp at Y
  .simp at Y
 .rename_i op hne;unfold zec at Y;split at Y
  .rename_i v H1 ho;simp only[Res.val.injEq]at Y;obtain⟨rfl,rfl⟩:=Y;exact U _ (LD h i ho) rfl
  .simp at Y
theorem zd(fit:Fit P){n:Nat}{ih:Task->Res}(J:Snd P B n ih){f N:Nat}{ops:Array Oper}:∀(l:List Oper) {E E':ao}{H:Hp}{x:AX}{a:Act}{w:World}{G:Gh}{Q:Exit->Act->World->Prop},zeG P B.cfg ih f N ops.toList l E H=.done x E' H' ->
 R B H w G->TR N G E a->a.defers=[]->(∀e M W,iP B N H.next G w x E' H' e M W->Q e M W)->wpList P ops Q l a w
 |[],E,E',H,x,a,w,G,Q,hr,h,ht,hd,hQ=>by
  simp only[zeG,Res.done.injEq]at hr;obtain⟨rfl,rfl,rfl⟩:=hr;exact hQ _ _ _ ⟨rfl,G,ht,i8 h,hd⟩
 |o::l,E,E',H,x,a,w,G,Q,hr,h,ht,hd,hQ=>by
  have C:∀E H,(List.rec (motive:=fun _=>ao->Hp->Res) (fun E H=>.done .normal E H)
   (fun o _ g E H=>match zey ops.toList E o with
     |true=>match zdA P B.cfg ih f E H o.op with
      | .val v H=>zeK g H (dW N E o.dst v)
      |_=>.fail
     |false=>zeK g H (dW N E o.dst zdx)) l E H:Res)=zeG P B.cfg ih f N ops.toList l E H:=fun _ _=>rfl
  have i:zeG P B.cfg ih f N ops.toList (o::l) E H=match zey ops.toList E o with
   |true=>match zdA P B.cfg ih f E H o.op with
    | .val v H=>zeK (zeG P B.cfg ih f N ops.toList l) H (dW N E o.dst v)
    |_=>.fail
   |false=>zeK (zeG P B.cfg ih f N ops.toList l) H (dW N E o.dst zdx):=rfl
  rw[i]at hr;have Z:=C5 (G:=G) (E:=E) (a:=a) (ops:=ops) (o:=o) (fun _ _ d _ _=>ht.slots d);have O:∀j v,(a.put j v).defers=[]:=fun j v=>by cases j<;>exact hd
  cases U:zey ops.toList E o with
  |true=>
   rw[U]at hr Z;simp only[]at hr;split at hr
   .rename_i v H1 Y;cases hp:dW N E o.dst v with
    |none=>rw[hp]at hr;simp[zeK]at hr
    |some E1=>
     rw[hp]at hr;simp only[zeK]at hr;unfold wpList;rw[ax Z.symm];refine .inl (vU fit J h (ht.knows _) Y fun A W L I K=>?_);have V:TR N L E1 (a.put o.dst A):=(ht.mono K.ext).put I hp;exact zd fit J l hr K.r V (O _ _) (fun e a w F=>hQ _ _ _ (vT K F))
   .simp at hr
  |false=>
   rw[U]at hr Z;simp only[]at hr;cases hp:dW N E o.dst zdx with
   |none=>rw[hp]at hr;simp[zeK]at hr
   |some E1=>
    rw[hp]at hr;simp only[zeK]at hr;unfold wpList;rw[ah (by rw[<-Z];simp)];exact zd fit J l hr h (ht.put (tv G) hp) (O _ _) hQ
end
section
variable {P:Program} {B:Bs} {G:Gh} {H H':Hp} {w:World} {cfg:Cfg}
theorem Sx.beq_eq:∀{a b:Sx},Sx.beq a b=true->a=b
 | .var i,b,h=>by
   cases b<;>simp only[Sx.beq,cr]at h;rw[gD h]
 | .lit i,b,h=>by
   cases b<;>simp only[Sx.beq,cr,k1]at h;rw[h]
 | .bin o k x y,b,h=>by
   cases b<;>simp only[Sx.beq,cr,kw]at h;obtain⟨⟨⟨rfl,rfl⟩,Z⟩,g⟩:=h;rw[Sx.beq_eq Z,Sx.beq_eq g]
 | .conv k x,b,h=>by
   cases b<;>simp only[Sx.beq,cr,kw]at h;obtain⟨rfl,Z⟩:=h;rw[Sx.beq_eq Z]
mutual
theorem AV.beq_eq:∀{a b:AV},AV.beq a b=true->a=b
 | .int k a,b,h=>by
   cases b<;>simp only[AV.beq,kw,k1,cr]at h;obtain⟨rfl,rfl⟩:=h;rfl
 | .sx k a,b,h=>by
   cases b<;>simp only[AV.beq,kw,cr]at h;obtain⟨rfl,i⟩:=h;rw[Sx.beq_eq i]
 | .bool a,b,h=>by
   cases b<;>simp only[AV.beq,k1,cr]at h;subst h;rfl
 | .str a,b,h=>by
   cases b<;>simp only[AV.beq,k1,cr]at h;subst h;rfl
 | .nilP,b,h=>by cases b<;>simp only[AV.beq,cr]at h;rfl
 | .nilM,b,h=>by cases b<;>simp only[AV.beq,cr]at h;rfl
 | .nilF,b,h=>by cases b<;>simp only[AV.beq,cr]at h;rfl
 | .nilS,b,h=>by cases b<;>simp only[AV.beq,cr]at h;rfl
 | .ptr r o,b,h=>by
   cases b<;>simp only[AV.beq,dp,cr]at h;obtain⟨i,g⟩:=h;rw[gD i,gD g]
 | .iptr a,b,h=>by
   cases b<;>simp only[AV.beq,cr]at h;rw[zfa h]
 | .sl r o l z,b,h=>by
   cases b<;>simp only[AV.beq,dp,cr]at h;obtain⟨⟨⟨i,g⟩,Z⟩,U⟩:=h;rw[gD i,gD g,gD Z,gD U]
 | .lst a,b,h=>by
   cases b<;>simp only[AV.beq,cr]at h;rw[C6 h]
 | .map r,b,h=>by
   cases b<;>simp only[AV.beq,cr]at h;rw[gD h]
 | .clo f a,b,h=>by
   cases b<;>simp only[AV.beq,dp,cr]at h;rw[gD h.1,zfa h.2]
 | .agg a,b,h=>by
   cases b<;>simp only[AV.beq,cr]at h;rw[zfa h]
 | .tup a,b,h=>by
   cases b<;>simp only[AV.beq,cr]at h;rw[zfa h]
theorem zfa:∀{a b:List AV},zeT a b=true->a=b
 |[],b,h=>by cases b<;>simp only[zeT,cr]at h;rfl
 |a::x,b,h=>by
  cases b<;>simp only[zeT,dp,cr]at h;rw[AV.beq_eq h.1,zfa h.2]
theorem C6:∀{a b:List (List AV)},pu a b=true->a=b
 |[],b,h=>by cases b<;>simp only[pu,cr]at h;rfl
 |a::x,b,h=>by
  cases b<;>simp only[pu,dp,cr]at h;rw[zfa h.1,C6 h.2]
end
theorem C7{M β:Type}:∀{a b:List (M×β)},a.map (·.1)=b.map (·.1)->a.map (·.2)=b.map (·.2)->a=b
 |[],b,h,_=>by cases b<;>simp at h;rfl
 |(x,y)::a,b,h,V=>by
  cases b with
  |nil=>simp at h
  |cons c b=>
   obtain⟨u,v⟩:=c;simp only[dJ,cM]at h V;obtain⟨rfl,h⟩:=h;obtain⟨rfl,V⟩:=V;rw[C7 h V]
theorem HB.beq_eq{a b:HB}(h:HB.beq a b=true):a=b:=by
 cases a<;>cases b<;>simp only[HB.beq,dp,cr,k1]at h
 .obtain⟨⟨i,g⟩,o⟩:=h;rw[zfa i,gD g,o]
 .rw[C7 (zfa h.1) (zfa h.2)]
def ky(P:Program)(cfg:Cfg)(ih:Task->Res)(f N:Nat)(C:List Oper):List Rec->List Oper->ao->Hp->ao->Hp->Prop
 |[],[],E,H,E',H'=>E=E'/\H=H'
 |r::rs,o::l,E,H,E',H'=>r.o=o/\r.E=E/\r.H=H/\zey C E o=r.did/\(r.did=true->zdA P cfg ih f E H o.op=.val r.val r.H')/\(r.did=false->r.val=zdx/\r.H'=H) /\
  ∃E1,dW N E o.dst r.val=some E1/\ky P cfg ih f N C rs l E1 r.H' E' H'
 |_,_,_,_,_,_=>False
theorem tI{ih:Task->Res}{f N:Nat}{C:List Oper}:∀{l:List Oper}{E E':ao}{H H':Hp}{rs:List Rec},gA P cfg ih f N C l E H=.done E' H' rs->ky P cfg ih f N C rs l E H E' H'
 |[],E,E',H,H',rs,h=>by
  simp only[gA,ResD.done.injEq]at h;obtain⟨rfl,rfl,rfl⟩:=h;exact⟨rfl,rfl⟩
 |o::l,E,E',H,H',rs,h=>by
  simp only[gA]at h;cases J:zey C E o with
  |true=>
   rw[J]at h;simp only[]at h;cases Y:zdA P cfg ih f E H o.op with
   |val v H1=>
    rw[Y]at h;simp only[]at h;cases hp:dW N E o.dst v with
    |none=>rw[hp]at h;simp[ze5,kT]at h
    |some E1=>
     rw[hp]at h;simp only[ze5]at h;cases hr:gA P cfg ih f N C l E1 H1 with
     |fail=>rw[hr]at h;simp[kT]at h
     |done M Z V=>
      rw[hr]at h;simp only[kT,ResD.done.injEq]at h;obtain⟨rfl,rfl,rfl⟩:=h;exact⟨rfl,rfl,rfl,J,fun _=>Y,aD,E1,hp,tI hr⟩
   |done _ _ _=>rw[Y]at h;simp at h
   |fail=>rw[Y]at h;simp at h
  |false=>
   rw[J]at h;simp only[]at h;cases hp:dW N E o.dst zdx with
   |none=>rw[hp]at h;simp[ze5,kT]at h
   |some E1=>
    rw[hp]at h;simp only[ze5]at h;cases hr:gA P cfg ih f N C l E1 H with
    |fail=>rw[hr]at h;simp[kT]at h
    |done M Z V=>
     rw[hr]at h;simp only[kT,ResD.done.injEq]at h;obtain⟨rfl,rfl,rfl⟩:=h;exact⟨rfl,rfl,rfl,J,aD,fun _=>⟨rfl,rfl⟩,E1,hp,tI hr⟩
def zd6(rs:List Rec)(F:ao)(e:Nat):ao:=match rs[e]? with
 |some r=>r.E
 |none=>F
theorem ze{ih:Task->Res}{f N:Nat}{C:List Oper}:∀{rs:List Rec}{l:List Oper}{E E':ao}{H H':Hp},ky P cfg ih f N C rs l E H E' H'->rs.length=l.length
 |[],[],_,_,_,_,_=>rfl
 |[],_::_,_,_,_,_,h=>by simp[ky]at h
 |_::_,[],_,_,_,_,h=>by simp[ky]at h
 |r::rs,o::l,E,E',H,H',h=>by
  obtain⟨_,_,_,_,_,_,E1,_,h⟩:=h;simp[ze h]
theorem zf{ih:Task->Res}{f N:Nat}{C:List Oper}{rs:List Rec}{l:List Oper}{E F:ao}{H H':Hp}(h:ky P cfg ih f N C rs l E H F H'):zd6 rs F 0=E/\zc3 rs H' 0=H:=by
 cases rs with
 |nil=>
  cases l with
  |nil=>obtain⟨rfl,rfl⟩:=h;exact⟨rfl,rfl⟩
  |cons o l=>simp[ky]at h
 |cons r rs=>
  cases l with
  |nil=>simp[ky]at h
  |cons o l=>
   obtain⟨_,i,g,_⟩:=h;exact⟨by simp[zd6,i],by simp[zc3,g]⟩
structure AtD (P:Program) (cfg:Cfg) (ih:Task->Res) (f N:Nat) (all:List Oper) (o:Oper) (r:Rec) (E E1:ao) (H H1:Hp):Prop where
 eo:r.o=o
 eE:r.E=E
 eH:r.H=H
 want:zey all E o=r.did
 yes:r.did=true->zdA P cfg ih f E H o.op=.val r.val H1
 no:r.did=false->r.val=zdx/\H1=H
 put:dW N E o.dst r.val=some E1
 eH':r.H'=H1
theorem pJ{ih:Task->Res}{f N:Nat}{C:List Oper}:∀{rs:List Rec}{l:List Oper}{E E':ao}{H H':Hp},ky P cfg ih f N C rs l E H E' H'->∀{i:Nat}{r:Rec},rs[i]?=some r ->
 ∃o,l[i]?=some o/\AtD P cfg ih f N C o r (zd6 rs E' i) (zd6 rs E' (i+1)) (zc3 rs H' i) (zc3 rs H' (i+1))
 |[],_,_,_,_,_,_,i,r,hr=>by simp at hr
 |r::rs,[],_,_,_,_,h,_,_,_=>by simp[ky]at h
 |r::rs,o::l,E,E',H,H',h,i,r',hr=>by
  obtain⟨V,g,Z,U,j,W,E1,F,I⟩:=h;obtain⟨O,M⟩:=zf I;cases i with
  |zero=>
   simp at hr;subst hr;have Y:zd6 (r::rs) E' 1=E1:=by rw[<-O];simp[zd6]
   have A:zc3 (r::rs) H' 1=r.H':=by rw[<-M];simp[zc3]
   have z:zd6 (r::rs) E' 0=E:=by simp[zd6,g]
   have e4:zc3 (r::rs) H' 0=H:=by simp[zc3,Z]
   refine⟨o,rfl,?_⟩;rw[Y,A,z,e4];exact⟨V,g,Z,U,j,fun m=>⟨(W m).1,(W m).2⟩,F,rfl⟩
  |succ i=>
   obtain⟨L,K,J⟩:=pJ I (i:=i) (r:=r') (by simpa using hr);have Y:∀k,zd6 (r::rs) E' (k+1)=zd6 rs E' k:=fun k=>by simp[zd6]
   have A:∀k,zc3 (r::rs) H' (k+1)=zc3 rs H' k:=fun k=>by simp[zc3]
   refine⟨L,by simpa using K,?_⟩;rw[Y,Y,A,A];exact J
def nI(op:Op):Bool:=match zed op with|.calm=>true |_=>false
def mz(op:Op):Bool:=match zed op with|.read=>true |_=>false
theorem LI{D:BinOp->Sx->Sx->Option Bool}{E:ao}{op:Op}(j:nI op=true):∃u,∀X,cq P D E X op=ret X u:=by
 cases op<;>simp only[nI,zed,cr]at j<;>simp only[cq]
 case move x=>exact⟨_,fun X=>rfl⟩
 case assign x=>exact⟨_,fun X=>rfl⟩
 case pick c a b=>
  unfold vk;cases zcp E c with
  |none=>exact⟨none,fun X=>rfl⟩
  |some v=>cases v with
   |bool t=>cases t<;>exact⟨_,fun X=>rfl⟩
   |_=>exact⟨none,fun X=>rfl⟩
 case build t parts=>
  unfold vm;cases zeQ E parts.toList with
  |none=>exact⟨none,fun X=>rfl⟩
  |some L=>exact⟨_,fun X=>rfl⟩
 case nilCheck x=>
  unfold vo;cases zcp E x with
  |none=>exact⟨none,fun X=>rfl⟩
  |some v=>cases v with
   |ptr r o=>exact⟨some (.ptr r o),fun X=>rfl⟩
   |iptr W=>exact⟨some (.iptr W),fun X=>rfl⟩
   |_=>exact⟨none,fun X=>rfl⟩
 case binOp op t x y yt=>
  unfold vp;cases zcp E x with
  |none=>exact⟨none,fun X=>rfl⟩
  |some v=>cases zcp E y with
   |none=>exact⟨none,fun X=>rfl⟩
   |some u=>exact⟨_,fun X=>rfl⟩
 case unOp op t x=>
  unfold vq;cases zcp E x with
  |none=>exact⟨none,fun X=>rfl⟩
  |some v=>exact⟨_,fun X=>rfl⟩
 case makeFunc fn first captured=>
  unfold vr;cases fn with
  |func f=>
   cases first.toList with
   |nil=>cases zeq E captured.toList with
    |none=>exact⟨none,fun X=>rfl⟩
    |some vs=>exact⟨some (.clo f vs),fun X=>rfl⟩
   |cons _ _=>exact⟨none,fun X=>rfl⟩
  |_=>exact⟨none,fun X=>rfl⟩
 case fieldAddr t x f=>
  unfold vt;cases zcp E x with
  |none=>exact⟨none,fun X=>rfl⟩
  |some v=>exact⟨_,fun X=>rfl⟩
 case field t x f=>
  unfold vu;cases zcp E x with
  |none=>exact⟨none,fun X=>rfl⟩
  |some v=>exact⟨_,fun X=>rfl⟩
 case indexAddr t x i=>
  unfold vw;cases zcp E x with
  |none=>exact⟨none,fun X=>rfl⟩
  |some v=>cases zcp E i with
   |none=>exact⟨none,fun X=>rfl⟩
   |some u=>exact⟨_,fun X=>rfl⟩
 case index t x i=>
  unfold vx;cases zcp E x with
  |none=>exact⟨none,fun X=>rfl⟩
  |some v=>cases zcp E i with
   |none=>exact⟨none,fun X=>rfl⟩
   |some u=>exact⟨_,fun X=>rfl⟩
 case extract x i=>
  unfold vz;cases zcp E x with
  |none=>exact⟨none,fun X=>rfl⟩
  |some v=>exact⟨_,fun X=>rfl⟩
 all_goals exact⟨none,fun X=>rfl⟩
theorem zg{D:BinOp->Sx->Sx->Option Bool}{E:ao}{op:Op}{v:AV}(j:nI op=true)(h:cq P D E H op=some (v,H')):H'=H/\∀X,cq P D E X op=some (v,X):=by
 obtain⟨u,I⟩:=LI (P:=P) (D:=D) (E:=E) j;rw[I]at h;obtain⟨rfl,rfl⟩:=zeR h;exact⟨rfl,fun X=>rx⟩
theorem zh{ih:Task->Res}{f:FuncId}{E:ao}{op:Op}{v:AV}(j:mz op=true)(h:zdA P cfg ih f E H op=.val v H'):H'=H:=by
 cases op<;>simp only[mz,zed,cr]at j<;>simp only[zdA,cq]at h
 case load t x=>
  unfold tc at h;split at h
  .cases F:zdZ P H t ‹AV› <;>rw[F]at h<;>simp[ret,zec]at h;exact h.2.symm
  .simp[zec]at h
 case slice t x lo hi mx=>
  unfold tg at h;split at h
  .rename_i Y lv L _ _ _;cases F:kR P H t Y lv L<;>rw[F]at h<;>simp[ret,zec]at h;exact h.2.symm
  .simp[zec]at h
 case convert s d x=>
  unfold td at h;split at h
  .cases F:zeI P H s d ‹AV› <;>rw[F]at h<;>simp[ret,zec]at h;exact h.2.symm
  .simp[zec]at h
 case lookup t m k ok=>
  unfold th at h;split at h
  .rename_i mv Z _ _;cases F:zeD P H t mv Z ok<;>rw[F]at h<;>simp[ret,zec]at h;exact h.2.symm
  .simp[zec]at h
 case call c=>
  unfold ou at h;cases hc:c.callee with
  |value g=>rw[hc]at j;simp at j
  |invoke g m=>rw[hc]at j;simp at j
  |builtin b=>
   rw[hc]at j h;simp only[]at h;split at h
   .rename_i vs _;cases b<;>simp only[cr]at j<;>simp only[mn]at h;all_goals
     split at h
     .rename_i I H1 z;simp only[Res.val.injEq]at h;obtain⟨rfl,rfl⟩:=h;split at z
      .split at z
       .simp only[ci]at z;exact z.2.symm
       .simp at z
      .simp at z
     .simp at h
   .simp at h
theorem LJ{D:BinOp->Sx->Sx->Option Bool}{E:ao}{o:Oper}{v:AV}(j:ox o=true)(h:cq P D E H o.op=some (v,H')):∃g,H'=H.alloc g:=by
 obtain⟨Z,i,U,V,W,guard⟩:=o;simp only[]at h;cases i<;>simp only[ox,zed,cr]at j<;>simp only[cq,reduceCtorEq]at h
 case alloc t=>
  unfold s8 at h;split at h
  .simp only[ci]at h;exact⟨_,h.2.symm⟩
  .simp at h
 case box t x=>
  unfold s9 at h;split at h
  .simp only[ci]at h;exact⟨_,h.2.symm⟩
  .simp at h
 case buildSlice t len parts=>
  unfold ta at h;split at h
  .unfold zdS at h;(repeat' split at h)<;>first|(simp only[ci]at h;exact⟨_,h.2.symm⟩)|simp at h
  .simp at h
 case makeMap t r=>
  unfold te at h;split at h
  .simp only[ci]at h;exact⟨_,h.2.symm⟩
  .simp at h
 case makeSlice t l c=>
  unfold tf at h;split at h
  .unfold zeb at h;(repeat' split at h)<;>first|(simp only[ci]at h;exact⟨_,h.2.symm⟩)|simp at h
  .simp at h
theorem pK{ih:Task->Res}{f:FuncId}{E:ao}{op:Op}{v:AV}(m:∀c,op≠.call c):zdA P cfg ih f E H op=.val v H'↔cq P cfg.dec E H op=some (v,H'):=by
 have:zdA P cfg ih f E H op=zec (cq P cfg.dec E H op):=by
  unfold zdA;split
  .exact(m _ rfl).elim
  .rfl
 rw[this];cases cq P cfg.dec E H op with
 |none=>simp[zec]
 |some p=>obtain⟨a,b⟩:=p;simp[zec]
theorem LK{ih:Task->Res}{f:FuncId}{E:ao}{o:Oper}{v:AV}(j:jG o=false)(h:zdA P cfg ih f E H o.op=.val v H'):H'=H\/∃g,H'=H.alloc g:=by
 cases K:zed o.op with
 |act=>simp[jG,K]at j
 |read=>exact .inl (zh (by simp[mz,K]) h)
 |calm=>
  have m:∀c,o.op≠.call c:=fun c e=>by
   rw[e]at K;simp only[zed]at K;split at K<;>simp at K
  exact .inl (zg (P:=P) (by simp[nI,K]) ((pK m).1 h)).1
 |make=>
  have m:∀c,o.op≠.call c:=fun c e=>by
   rw[e]at K;simp only[zed]at K;split at K<;>simp at K
  exact .inr (LJ (by simp[ox,K]) ((pK m).1 h))
end
end Go.Ab
