/- Lemmas for the last file. -/
import Derived.Laws.Tables
import Derived.Lib.Strings
import Derived.Test.YtpbcimfiofmoeaaGreatWEB
set_option linter.all false
set_option maxHeartbeats 32000000
namespace Go.Ab
set_option maxRecDepth 20000
open Go
abbrev qL:=Array Bool
abbrev qy:=List Int
variable{qe:Prop}
def GT(h:qe:=by rw[<- Nat.add_mul];congr 1;omega):=h
def CP(h:qe:=by simp[Builtin.lenOf]):=h
def zV(h:qe:=by simp[Builtin.len_,eG hd,goInt]):=h
def fH(h:qe:=by simp[Op.operands]):=h
def Ls(h:qe:=by simp only[Op.operands,List.mem_toArray,List.mem_map];grind):=h
def xY:=@Nat.sub_self
def sD:=@Option.map_some
def lN:=@congrArg
def cZ:=@Nat.zero_le
def wA:=@Nat.add_mul
def GU:=@List.zipIdx_cons
def tK:=@List.take_add_one
def CQ:=@Array.ext'
def tL:=@Nat.add_zero
def eI:=@List.getElem?_map
def wB:=@List.getElem?_range
def aS:=@List.append_nil
def zW:=@Array.toArray_toList
def zX:=@Nat.mul_le_mul_right
def zY:=@List.take_append_drop
def xZ:=@Nat.min_eq_left
def zZ:=@Go.IntWalk.i64_in
def jl:=@List.flatten_cons
def x3:=@Nat.succ_mul
def GV:=@Go.run_firstCells_some
def da:=@Bool.and_eq_true
def CR:=@Nat.le_of_ble_eq_true
def dM:=@Bool.false_eq_true
def CS:=@List.drop_append_of_le_length
def rG:=@decide_eq_true_eq
def tM:=@beq_iff_eq
def bN:=@Option.getD_some
def sE:=@List.getElem?_set
def z6:=@Array.getElem?_toList
def eJ:=@List.cons.injEq
def oN:=@Nat.mul_one
def mh:=@List.mem_map
def uY:=@Go.Code.wp_mono
def kM:=And.intro @sD.{0,0} @aQ.{0}
end Go.Ab
namespace Go.Ab
set_option maxRecDepth 20000
open Go Go.RowKit
variable{c x m y:AV}{k s n b z Y N:Nat}{d C:TypeDesc}{lo I:qE}{V O:Value}{t u e M:TypeId}{cs:qu}{vs:qH}{a:Act}{w':World}{J:Gh}{o:Oper}{E:aq}{ops:qQ}
def wC(G:Gh):qE->qS->Prop
 |none,none=>True
 |some c,some v=>VR G c v
 |_,_=>False
section
variable {P:Program} {B:Bs} {G:Gh} {H H':Hp} {w:World}
def CT{v:Value}{y:Nat}(code:BoundsCode)(h:VR G c v)(hb:iQ 0 (some c)=some k)(z:k<=y):(Instr.sliceBound v y code).run P w=.ok k w:=by
 unfold iQ at hb;split at hb
 .simp at *
 .rename_i m n e;simp only[aQ]at hb e;subst hb;subst e;cases h;simp[Instr.sliceBound,asIntOf,z]
 .simp at hb
def VO{d:Nat}(h:iQ d (some c)=some k):iQ 0 (some c)=some k:=by
 unfold iQ at *;split at h<;>simp_all
def GW{U V:qS}{l h len cap:Nat}(O:wC G lo U)(z:wC G I V)(Y:iQ 0 lo=some l)(M:iQ len I=some h)(h1:l<=h)(h2:h<=len)(C:len<=cap)(J:Bool):
 (Instr.sliceBounds J len cap U V none).run P w=.ok (l,h,cap) w:=by
 cases I with
 |none=>
  cases V with
  |some v=>exact z.elim
  |none=>
   simp only[iQ,aQ]at M;subst M;cases lo with
   |none=>
    cases U with
    |some v=>exact O.elim
    |none=>
     simp only[iQ,aQ]at Y;subst Y;simp[Instr.sliceBounds]
   |some c=>
    cases U with
    |none=>exact O.elim
    |some v=>simp[Instr.sliceBounds,CT _ O Y h1]
 |some m=>
  cases V with
  |none=>exact z.elim
  |some j=>
   have Z:=VO M;cases lo with
   |none=>
    cases U with
    |some v=>exact O.elim
    |none=>
     simp only[iQ,aQ]at Y;subst Y;simp[Instr.sliceBounds,CT _ z Z (show h<=cap by omega)]
   |some c=>
    cases U with
    |none=>exact O.elim
    |some v=>simp[Instr.sliceBounds,CT _ O Y h1,CT _ z Z (show h<=cap by omega)]
def VP{xv:Value}{lov hiv:qS}(hx:VR G x xv)(hl:wC G lo lov)(hh:wC G I hiv)(h:kW P t x lo I=some c):
 ∃v,(Instr.sliceAt t xv lov hiv none).run P w=.ok v w/\VR G c v:=by
 unfold kW at h;split at h
 .rename_i s hd;split at h
  .rename_i l hh' O M;split at h
   .rename_i hc;simp only[aQ]at h;subst h;cases hx with
    |aj sv _ hs=>
     subst hs;have hb:=GW (P:=P) (w:=w) (cap:=sv.size) hl hh O M hc.1 hc.2 bb false;have hsz:sv.data.toList.length=sv.size:=bb;rw[hsz]at hb;refine⟨.string (sv.extract l hh'),?_,.aj _ _ (Lib.extract_data _ _ _)⟩;simp only[Instr.sliceAt,fU,eG hd,fV,Instr.slice];simp[hb]
   .simp at h
  .simp at h
 .rename_i e y hd;split at h
  .rename_i z hz;have U:∀(a:Option Addr) (Y cap l V:Nat),xv=.slice a Y cap->iQ 0 lo=some l->iQ Y I=some V->l<=V->V<=Y->Y<=cap ->
    (Instr.sliceAt t xv lov hiv none).run P w=.ok (.slice (if cap=l then a else a.map (·.add (l*z))) (V-l) (cap-l)) w:=fun a Y cap l V e1 O M h1 C h3=>by
    subst e1;simp only[Instr.sliceAt,fU,eG hd,fV,Instr.slice];simp[GW hl hh O M h1 C h3,mg hz]
   split at h
   .rename_i r off Y z';split at h
    .rename_i l V O M;split at h
     .rename_i hc;obtain⟨h1,C,rfl⟩:=hc;cases hx with
      |sl hr hlc hx'=>
       rename_i b o x cap;have:=U _ Y cap l V rfl O M h1 C hlc;split at h
       .rename_i e1;simp only[aQ]at h;subst h;subst e1;rw[xY]at this;exact⟨_,this,.lst0 _ _⟩
       .rename_i hne;simp only[aQ]at h;subst h;rw[af ac]at this;refine⟨_,this,?_⟩;simp only[sD,oM];rw[iH];refine .sl hr ac ?_;have e3:(cap-l)*z'+l*z'=cap*z':=GT;omega
     .simp at h
    .simp at h
   .rename_i xs;split at h
    .rename_i l V O M;split at h
     .rename_i hc;obtain⟨h1,C⟩:=hc;split at h
      .rename_i he;simp only[aQ]at h;subst h;have Z:V-l=0:=by
        have:=lN List.length he
        grind
       cases hx with
       |az vs hzz hF hv J=>
        have:=U _ _ _ l V rfl O M h1 C J;rw[Z]at this;exact⟨_,this,.lst0 _ _⟩
       |lst0 a cap=>
        have:=U _ _ _ l V rfl O M h1 C (cZ cap);rw[Z]at this;exact⟨_,this,.lst0 _ _⟩
      .rename_i row rows he;split at h
       .rename_i hrl;simp only[aQ]at h;subst h;have hpos:0<V-l:=by
         grind
        cases hx with
        |lst0 a cap=>simp at C;omega
        |az vs hzz hF hv J=>
         rename_i b o cap z';have m:=U _ _ _ l V rfl O M h1 C J;rw[af ac]at m;have hget:∀i:Nat,(row::rows)[i]?=if i<V-l then xs[l+i]? else none:=fun i=>by
          rw[<-he,uX,zO]
         have hz':z'=z:=by
          have:=hget 0;rw[ai hpos]at this;rw[<-hzz (l+0) row (by rw[<-this];rfl)];exact hrl
         subst hz';have Z:(row::rows).length=V-l:=by
          rw[<-he];simp only[oL,nQ];omega
         refine⟨_,m,?_⟩;simp only[sD,oM];rw[<-Z];refine .az (z:=z') (fun i j=>vs (l+i) j) (fun i rw' I=>?_) (fun i j I hj=>?_) (fun i j rw' d I hj=>?_) (by rw[Z];omega)
         .rw[hget i]at I;split at I
          .exact hzz _ _ I
          .simp at I
         .have:=hF (l+i) j (by rw[Z]at I;omega) hj;rw[<-this]
          congr 1
          rw[wA];omega
         simp_all
       .simp at h
     .simp at h
    .simp at h
   .split at h
    .rename_i O M;simp only[aQ]at h;subst h;cases hx;have:=U none 0 0 0 0 rfl O M (ay _) (ay _) (ay _);exact⟨_,this,.ag⟩
    .simp at h
   .simp at h
  .simp at h
 .simp at h
def cc.splice{O:qu}{nv:qH}(h:cc G cs vs)(J:cc G O nv)(off:Nat):cc G (Ab.splice cs off O) (vs.take off++nv++vs.drop (off+nv.length)):=by
 unfold Ab.splice;rw[J.1];exact((h.take off).append J).append (h.drop _)
theorem Lt(off:Nat):∀(Y:qH) (k:Nat) (cells:Array Value),off+k+Y.length<=cells.size ->
 ((Y.zipIdx k).foldl (fun I (c,j)=>I.setIfInBounds (off+j) c) cells).toList=cells.toList.take (off+k)++Y++cells.toList.drop (off+k+Y.length)
 |[],k,cells,_=>by simp
 |v::Y,k,cells,h=>by
  simp only[gF]at h;rw[GU,List.foldl_cons,Lt off Y (k+1) _ cb];simp only[Array.toList_setIfInBounds,gF];have hp:off+k<cells.toList.length:=cb;have m:(cells.toList.set (off+k) v).take (off+(k+1))=cells.toList.take (off+k)++[v]:=by
   rw[<-iH,tK,List.take_set_of_le (ay _),List.getElem?_set_self hp];rfl
  rw[m,List.drop_set_of_lt ac,show off+(k+1)+Y.length=off+k+(Y.length+1) by omega];simp
theorem CU{J:Nat->Option (Nat×Nat)}:∀{ps:qO}{pv:List (Nat×Value)}{cs out:qu}{vs:qH},ps.length=pv.length ->
 (∀(i:Nat) p q,ps[i]?=some p->pv[i]?=some q->p.1=q.1/\VR G p.2 q.2)->cc G cs vs->sA J cs ps=some out ->
 ∃m,Instr.fill J vs.toArray pv=some m.toArray/\cc G out m
 |[],[],cs,out,vs,_,_,hv,h=>by
  simp only[sA,aQ]at h;subst h;exact⟨vs,rfl,hv⟩
 |[],q::pv,_,_,_,hl,_,_,_=>by simp at hl
 |p::ps,[],_,_,_,hl,_,_,_=>by simp at hl
 |(i,c)::ps,(i',v)::pv,cs,out,vs,hl,hp,hv,h=>by
  obtain⟨rfl,V⟩:=hp 0 (i,c) (i',v) rfl rfl;simp only[]at V;simp only[sA]at h;split at h
  .simp at h
  .rename_i Y Z C;split at h
   .simp at h
   .rename_i O;have U:=V.cells;have M:v.cells.size=c.cells.length:=by rw[U.1];simp
    have z:v.cells.size=Z/\Y+v.cells.size<=vs.length:=by
     rw[M,<-hv.1];omega
    obtain⟨m,h1,h2⟩:=CU (ps:=ps) (pv:=pv) (cs:=Ab.splice cs Y c.cells) (out:=out) (vs:=vs.take Y++v.cells.toList++vs.drop (Y+v.cells.toList.length))
     (by simpa using hl) (fun j p q hj hq=>hp (j+1) p q (by simpa using hj) (by simpa using hq)) (hv.splice U Y) h
    refine⟨m,?_,h2⟩;simp only[Instr.fill,C];rw[af cb];rw[<-h1]
    congr 1
    apply CQ;have I:=Lt Y v.cells.toList 0 vs.toArray cb;simp only[tL]at I;rw[List.toList_toArray,<-I];rw[<-Array.foldl_toList,Array.toList_zipIdx]
theorem CV{E:aq}{a:Act}:∀{ps:List (Nat×Operand)}{out:qO},(∀p∈ps,∀c,aT E p.2=some c->VR G c (a.eval p.2))->lJ E ps=some out ->
 out.length=(ps.map fun x=>(x.1,a.eval x.2)).length/\∀(i:Nat) p q,out[i]?=some p->(ps.map fun x=>(x.1,a.eval x.2))[i]?=some q->p.1=q.1/\VR G p.2 q.2
 |[],out,_,h=>by
  simp only[lJ,aQ]at h;simp_all
 |(i,x)::ps,out,hE,h=>by
  simp only[lJ]at h;split at h
  .rename_i v vs Z C;simp only[aQ]at h;subst h;obtain⟨m,j⟩:=CV (ps:=ps) (out:=vs) (fun p hp=>hE p (by simp[hp])) C
   grind
  .simp at h
def VQ{ps:qO}{pv:List (Nat×Value)}(hl:ps.length=pv.length)(hp:∀(i:Nat) p q,ps[i]?=some p->pv[i]?=some q->p.1=q.1/\VR G p.2 q.2)(h:dd P t ps=some c):
 ∃v,(Instr.build t pv.toArray).run P w=.ok v w/\VR G c v:=by
 unfold dd at h;split at h
 .rename_i z C O hd;split at h
  .rename_i V I;split at h
   .rename_i out hf;simp only[aQ]at h;subst h;obtain⟨it,zv,zc,J,Z,M,rfl⟩:=GP O;have j:=(xV (G:=G) M).cells;obtain⟨m,h1,Y⟩:=CU hl hp j hf;refine⟨.agg m.toArray,run_build w t _ _ ?_,.agg Y.1 Y.2⟩;simp only[Program.built,J,hd,Z];unfold K7 at I;simp_all
   .simp at h
  .simp at h
 .rename_i z n e O hd;split at h
  .rename_i s hs;split at h
   .rename_i out hf;simp only[aQ]at h;subst h;obtain⟨it,zv,zc,J,Z,M,rfl⟩:=GP O;have j:=(xV (G:=G) M).cells;obtain⟨ie,hie,U⟩:=Lj hs;obtain⟨m,h1,Y⟩:=CU hl hp j hf;refine⟨.agg m.toArray,run_build w t _ _ ?_,.agg Y.1 Y.2⟩;simp only[Program.built,J,hd,Z,hie,U];omega
   .simp at h
  .simp at h
 .simp at h
theorem Lu(z:qu):∀(n j:Nat),j<n*z.length->(pG z n)[j]?=z[j%z.length]?
 |0,j,h=>by simp at h
 |n+1,j,h=>by
  simp only[pG];by_cases Y:j<z.length
  .rw[rD Y,Nat.mod_eq_of_lt Y]
  .have U:j<n*z.length+z.length:=by grind
   rw[uW ac,Lu z n (j-z.length) ac]
   congr 1
   exact(Nat.mod_eq_sub_mod ac).symm
theorem CW(z:qu):∀n,(pG z n).length=n*z.length
 |0=>by simp[pG]
 |n+1=>by simp[pG,CW z n,wA];omega
def Lw{z:qu}{Z:Array Value}(C:cc G z Z.toList)(n:Nat):cc G (pG z n) (((Array.range (n*z.length)).map (Z[·% Z.size]!))).toList:=by
 have O:=C.1;refine⟨by simp[CW],fun j c v hc V=>?_⟩;have Y:j<n*z.length:=by
  have:=(gZ.1 hc).1;rw[CW]at this;exact this
 rw[Lu z n j Y]at hc;simp only[Array.toList_map,Array.toList_range,eI,wB Y,kM]at V;have I:0<z.length:=by
  rcases Nat.eq_zero_or_pos z.length with e|e
  .rw[e]at Y;omega
  .exact e
 have M:j%z.length<z.length:=Nat.mod_lt _ I;have U:Z.size=z.length:=by simpa using O.symm
 refine C.2 (j%z.length) c v hc ?_;simp_all
theorem Ly{J:Nat->Option (Nat×Nat)}:∀{z:qO}{I C:qu},sA J I z=some C->C.length=I.length
 |[],I,C,h=>by simp only[sA,aQ]at h;rw[h]
 |(i,c)::z,I,C,h=>by
  simp only[sA]at h;split at h
  .simp at h
  .split at h
   .simp at h
   .rename_i hc;rw[Ly h,Vs];omega
def Lz{len:Nat}{ps:qO}{pv:List (Nat×Value)}(hl:ps.length=pv.length)(hp:∀(i:Nat) p q,ps[i]?=some p->pv[i]?=some q->p.1=q.1/\VR G p.2 q.2)
 (hb:de P H t len ps=some (c,H')):rF P G w (Instr.buildSlice t len pv.toArray) id c H H':=by
 unfold de at hb;split at hb
 .rename_i e hd;split at hb
  .rename_i s z J hz;split at hb
   .rename_i hc;obtain⟨h24,Y⟩:=hc;split at hb
    .rename_i I C;simp only[dB]at hb;obtain⟨rfl,rfl⟩:=hb;obtain⟨zv,j,O⟩:=zU hz;have V:=Lw (O G) len;obtain⟨m,Z,h2⟩:=CU hl hp V C;have hlen:m.length=len*s:=by
      rw[<-h2.1,Ly C,CW,Y]
     refine⟨.cells I 0 true,.cells (m++[]).toArray e,m.length+0,.slice (some ⟨w.heap.size,0,none⟩) len len,rfl,?_,.cells I m [] e h2,fun G' hG=>.sl hG (ay _) ac⟩;rw[aS];show _=Result.ok (Value.slice (some ⟨w.heap.size,0,none⟩) len len) _
     .have U:¬(len*s > 2^24):=by omega
      rw[Y]at Z;by_cases M:len*s=0
      .rw[M]at Z;simp at Z;simp[Instr.buildSlice,eG hd,mg J,M,newRow];rw[show Array.map (fun _:Nat=>(default:Value)) (Array.range 0)=#[]from by simp,Z];rfl
      .simp only[zW]at Z;simp[Instr.buildSlice,eG hd,mg J,U,M,j,Z,newRow]
    .simp at hb
   .simp at hb
  .simp at hb
 .simp at hb
theorem LA{l r:AV}{lv cv:Value}(hl:VR G l lv)(hc:VR G c cv)(Y:pI P H t l c=some (r,H')):
 rF P G w (Instr.makeSlice t lv cv) id r H H':=by
 unfold pI at Y;split at Y
 .rename_i e k1 l k2 c hd;cases hl;cases hc;split at Y
  .rename_i s b z hs hb hz;split at Y
   .rename_i O;obtain⟨h1,h2,h3,h4⟩:=O;simp only[dB]at Y;obtain⟨rfl,rfl⟩:=Y;obtain⟨Z,U,M⟩:=zU hz;obtain⟨i,hi,I⟩:∃i,P.info? e=some i/\i.bytes=b:=by simpa [dF,sC]using hb
    have Y:ee=70368744177664:=rfl;rw[Y]at h2 h3;have V:=Lw (M G) l;have j:((Array.range (c*s)).map (Z.cells[·% Z.cells.size]!)).toList=((Array.range (l*s)).map (Z.cells[·% Z.cells.size]!)).toList++(((Array.range (c*s)).map (Z.cells[·% Z.cells.size]!)).toList.drop (l*s)):=by
     have C:l*s<=c*s:=zX _ h1
     conv=>lhs;rw[<-zY (l*s) ((Array.range (c*s)).map (Z.cells[·% Z.cells.size]!)).toList]
     congr 1
     simp only[Array.toList_map,Array.toList_range,<-List.map_take];rw[List.take_range,xZ C]
    rw[h4]at V;have J:zis G (.cells (pG z l) 0 true) _ _:=.cells _ _ (((Array.range (c*s)).map (Z.cells[·% Z.cells.size]!)).toList.drop (l*s)) e V;rw[<-j,zW]at J;refine⟨_,_,_,.slice (some ⟨w.heap.size,0,none⟩) l c,rfl,?_,J,fun G' hG=>.sl hG h1 ?_⟩
    .show _=Result.ok (Value.slice (some ⟨w.heap.size,0,none⟩) l c) _;have cm:IntKind.i64.wrap (l:Int)=l:=zZ _ ac;have w2:IntKind.i64.wrap (c:Int)=c:=zZ _ ac;have m:¬((b:Int)*c > 2^48):=by
      have:(b:Int)*c=((c*b:Nat):Int):=by rw[Nat.mul_comm];simp
      rw[this];omega
     have h5:¬((281474976710656:Int)<(b:Int)*c):=by simpa using m
     have h6:¬(c<l):=ac;have p1:¬((c:Int)<0):=ac;have p2:¬((l:Int)<0):=ac;simp only[Instr.makeSlice,fU,eG hd,fV,asInt,asIntOf];by_cases h0:c*s=0
     .simp[xW hi,I,cm,w2,h5,h6,p1,p2,mg hs,h0,newRow];rw[show ∀f g:Nat->Value,Array.map f (Array.range 0)=Array.map g (Array.range 0)from fun f g=>aw]
     .simp[xW hi,I,cm,w2,h5,h6,p1,p2,mg hs,h0,U,newRow]
    grind
   .simp at Y
  .simp at Y
 .simp at Y
end
section
variable {P:Program} {B:Bs} {G:Gh} {H H':Hp} {w:World}
def cc.co(h:cc G cs vs)(M:cs.all AV.one=true):∀v∈vs,v.oneCell'=true:=fun v Y=>by
 obtain⟨i,Z,rfl⟩:=GM Y;have I:i<cs.length:=by rw[h.1];exact Z
 rw[(h.2 i _ _ (bj I) (bj Z)).co];simp_all
def VS{xs:List qu}(U:∀(i:Nat) (I:qu),xs[i]?=some I->I.length=s):xs.flatten.length=xs.length*s /\
 ∀(i j:Nat) (c:AV),j<s->xs.flatten[i*s+j]?=some c->∃I,xs[i]?=some I/\I[j]?=some c:=by
 induction xs with
 |nil=>simp_all
 |cons I xs ih=>
  have hr:=U 0 I rfl;obtain⟨m,V⟩:=ih (fun i r Z=>U (i+1) r xR);refine⟨aX,fun i j c Y hc=>?_⟩;rw[jl]at hc;cases i with
  |zero=>
   grind
  |succ i=>
   rw[uW (by rw[hr,x3];omega)]at hc;rw[hr,show(i+1)*s+j-s=i*s+j by rw[x3];omega]at hc;simp_all
def VT(h:k<n*s):k/s<n/\k%s<s/\k=k/s*s+k%s:=by
 have U:0<s:=by
  rcases Nat.eq_zero_or_pos s with e|e
  .subst e;omega
  .exact e
 refine⟨(Nat.div_lt_iff_lt_mul U).2 h,Nat.mod_lt _ U,?_⟩;have:=Nat.div_add_mod k s
 grind
def VU(h:R B H w G){M:Value}{Y V:qS}(C:VR G x M)(J:wC G lo Y)(m:wC G I V)(U:pF P H t x lo I=some c):
 ∃v,(Instr.sliceAt t M Y V none).run P w=.ok v w/\VR G c v:=by
 unfold pF at U;split at U
 .rename_i r O;split at U
  .rename_i n e cs j tip hd hg;split at U
   .rename_i z l h' hz bl bh;split at U
    .rename_i hc;obtain⟨h1,h2,h3⟩:=hc;cases C with
     |ptr hr=>
      rename_i b o x;have hf:=h.b7 _ _ _ _ _ _ _ hr hg;have hb:=GW (P:=P) (w:=w) (cap:=n) J m bl bh h1 h2 (ay _) false;have Z:(Instr.sliceAt t (.pointer (some ⟨b,o+O,none⟩)) Y V none).run P w=.ok (.slice (some (if n=l then ⟨b,o+O,none⟩else ⟨b,o+O+l*z,none⟩)) (h'-l) (n-l)) w:=by
       simp only[Instr.sliceAt,fU,eG hd,fV];simp[Instr.sureAddr,hb,mg hz,oM]
      split at U
      .rename_i e1;simp only[aQ]at U;subst U;subst e1;rw[xY]at Z;exact⟨_,Z,.lst0 _ _⟩
      .rename_i hne;simp only[aQ]at U;subst U;rw[af ac]at Z;refine⟨_,Z,?_⟩;rw[iH];refine .sl hr ac ?_;have e3:(n-l)*z+l*z=n*z:=GT;omega
    .simp at U
   .simp at U
  .simp at U
 .exact VP C J m U
def GX(h:R B H w G){xv:Value}{l:qu}(hx:VR G x xv)(U:fk H s x=some (n,l)):
 ∃C,cc G l C/\C.length=n*s/\(∀I,(Builtin.lenOf xv).run P I=.ok n I)/\(∀I,(∀a,I.cell? a=w.cell? a)->(Builtin.firstCells s n xv).run P I=.ok C.toArray I):=by
 unfold fk at U;split at U
 .rename_i r off V z;cases hx with
  |sl hr hl hc=>
   rename_i b o x O;split at U
   .rename_i cs imm tip hg;simp only[]at U;split at U
    .rename_i hlen;simp only[dB]at U;obtain⟨rfl,rfl⟩:=U;obtain⟨vs,h1,h2⟩:=(((h.cells _ _ _ _ _ _ _ hr hg).drop off).take (V*s)).list;have Y:vs.length=V*s:=by rw[<-h1.1];exact hlen
     refine⟨vs,h1,Y,fun I=>CP,fun I hw=>?_⟩;exact GV I s V _ V O vs Y (fun j v hj=>by rw[hw,oM];exact h2 j v hj)
    .simp at U
   .simp at U
 .rename_i M;split at U
  .rename_i hall;simp only[dB]at U;obtain⟨rfl,rfl⟩:=U;have J:∀(i:Nat) (Z:qu),M[i]?=some Z->Z.length=s:=fun i Z hi=>by
    grind
   obtain⟨hfl,hfg⟩:=VS J;cases hx with
   |lst0 a O=>
    refine⟨[],mc G,aw,fun I=>CP,fun I hw=>?_⟩;cases a with
    |none=>simp[Builtin.firstCells]
    |some a=>
     simp[Builtin.firstCells];rfl
   |az vs hz hF hv hcap=>
    rename_i b o O z;have hzs:M.length=0\/z=s:=by
     cases M with
     |nil=>exact .inl rfl
     |cons Z M=>exact .inr (by rw[<-hz 0 Z rfl,J 0 Z rfl])
    have hh:jK G w b o M.flatten:=fun k c hk=>by
     have m:k<M.length*s:=by rw[<-hfl];exact(gZ.1 hk).1
     obtain⟨d1,d2,d3⟩:=VT m;have hz':z=s:=by
      rcases hzs with e|e
      .rw[e]at m;omega
      .exact e
     subst hz';obtain⟨Z,g1,g2⟩:=hfg (k/z) (k%z) c d2 (by rw[<-d3];exact hk);refine⟨vs (k/z) (k%z),?_,hv _ _ Z c g1 g2⟩;have:=h.dB _ _ _ (hF (k/z) (k%z) d1 d2)
     grind
    obtain⟨C,h1,h2⟩:=hh.list;have Y:C.length=M.length*s:=by rw[<-h1.1];exact hfl
    refine⟨C,h1,Y,fun I=>CP,fun I hw=>?_⟩;exact GV I s M.length _ M.length O C Y (fun j v hj=>by rw[hw,oM];exact h2 j v hj)
  .simp at U
 .simp only[dB]at U;obtain⟨rfl,rfl⟩:=U;cases hx;exact⟨[],mc G,aw,fun I=>CP,fun I hw=>by simp[Builtin.firstCells]⟩
 .rename_i b;split at U
  .rename_i e;subst e;simp only[dB]at U;obtain⟨rfl,rfl⟩:=U;cases hx with
   |aj sv _ hb=>
    subst hb;have hsz:sv.data.toList.length=sv.size:=bb;refine⟨sv.data.toList.map fun x=>.int .u8 x.toNat,⟨aw,fun i c v hc hv=>?_⟩,aw,fun I=>by simp[Builtin.lenOf,hsz],fun I hw=>?_⟩
    .rw[eI]at hc hv;cases hi:sv.data.toList[i]? with
     |none=>simp_all
     |some u=>
      rw[hi]at hc hv;simp only[kM]at hc hv;subst hc hv;exact .int _ _
    .simp only[Builtin.firstCells,l7]
     congr 1
     apply CQ;simp_all
  .simp at U
 .simp at U
def LB(z:Array Value)(n:Nat):(Builtin.zeroCells z n).toList.length=n*z.size:=by simp[Builtin.zeroCells]
def LC{ty:TypeId}(hd:P.underlying t=some (.slice e))(U:P.underlying u=some C)(I:∀k,C≠.int k)(Z:bL P e=some s)
 {a:Option Addr}{len cap:Nat} (Y:len+n<=cap) {nv:qH} (O:(Builtin.lenOf V).run P w=.ok n w) (j:(Builtin.firstCells s n V).run P w=.ok nv.toArray w) :
 (Builtin.append_ #[t,u] ty #[.slice a len cap,V]).run P w=(match a with
   |some a=>((storeCells (a.add (len*s)) nv).run P w).andThen fun _ M=>.ok (.slice (some a) (len+n) cap) M
   |none=>.ok (.slice none (len+n) cap) w):=by
 have J:(match C with|.int _=>true |_=>false)=false:=bb;simp only[Builtin.append_];simp[eG hd,eG U,mg Z,O];rw[ai Y,j];cases a<;>simp
theorem LD{ty:TypeId}(hd:P.underlying t=some (.slice e))(m:P.underlying u=some C)(I:∀k,C≠.int k)(j:bL P e=some s)(hb:dF P e=some b)
 {J:Value} (hz:∀w,(zeroValue e).run P w=.ok J w)
 {a:Option Addr}{len cap:Nat} (Y:cap<len+n) (M:(len+n)*b<=ee) (z:len+n<=ee) {ov nv:qH} (hl:(Builtin.lenOf V).run P w=.ok n w) (hf:(Builtin.firstCells s n V).run P w.drew=.ok nv.toArray w.drew)
 (ho:(Builtin.firstCells s len (.slice a len cap)).run P w.drew=.ok ov.toArray w.drew) :
 (Builtin.append_ #[t,u] ty #[.slice a len cap,V]).run P w=.ok (.slice (some ⟨w.heap.size,0,none⟩) (len+n) (grownCap w (len+n) cap e))
   (w.drew.alloc (.cells (ov++nv++(Builtin.zeroCells J.cells (grownCap w (len+n) cap e-(len+n))).toList).toArray e)):=by
 have hz':(match C with|.int _=>true |_=>false)=false:=by cases C<;>first|rfl|exact(I _ rfl).elim
 obtain⟨i,hi,Z⟩:∃i,P.info? e=some i/\i.bytes=b:=by simpa [dF,sC]using hb
 have hm:ee=70368744177664:=rfl;rw[hm]at M z;have U:¬(281474976710656<Builtin.nextslicecap (len+n) cap*b):=by
  have:=growslice_fits Y (bytes:=b) ac;omega
 have O:¬(9223372036854775807<((len:Int)+(n:Int))):=ac;have h1:¬(len+n<=cap):=ac;simp only[Builtin.append_];simp[eG hd,eG m,mg j,hl,h1,xW hi,Z,O,U,Question.forced,ho,hf,hz,newRow,grownCap]
 congr 2
 simp_all
def R.heap(h:R B H w G)(e:w'.heap=w.heap):R B H w' G:=by
 have k:∀a,w'.cell? a=w.cell? a:=fun a=>by simp[World.cell?,e]
 have O:∀a,w'.frozen? a=w.frozen? a:=fun a=>by simp[World.frozen?,e]
 exact{
  ci:=by rw[e];exact h.ci
  dv:=h.dv
  lt:=fun r b o x hr=>by rw[e];exact h.lt r b o x hr
  cells:=fun r b o x I imm C hr hc j c Y=>by rw[k];exact h.cells r b o x I imm C hr hc j c Y
  aP:=h.aP
  ext:=h.ext
  b7:=h.b7
  bM:=fun r b o x I imm C hr hc j Y V=>by rw[k,O];exact h.bM r b o x I imm C hr hc j Y V
  apart:=h.apart
  map:=fun r b o x Z hr hc=>by rw[e];exact h.map r b o x Z hr hc
  aZ:=h.aZ
  dB:=fun b o v U=>by rw[k];exact h.dB b o v U
  val:=h.val
  ec:=h.ec}
def Step.ed(h:Step B z G w.drew H' w' J):Step B z G w H' w' J:=
 ⟨h.r,h.ext,⟨h.fr.os,h.fr.tape,h.fr.output,h.fr.size,h.fr.block⟩,h.new,h.cL,h.mono,h.dj⟩
def jK.e9{o off len:Nat}(z:jK G w b o cs)(O:off+len*s=cs.length){cap:Nat}:
 ∃J,cc G (cs.drop off) J/\J.length=len*s/\∀I,(∀a,I.cell? a=w.cell? a)->(Builtin.firstCells s len (.slice (some ⟨b,o+off,none⟩) len cap)).run P I=.ok J.toArray I:=by
 obtain⟨vs,m,V⟩:=(z.drop off).list;have Z:vs.length=len*s:=by rw[<-m.1,nQ];omega
 exact⟨vs,m,Z,fun I M=>GV I s len _ len cap vs Z (fun j v Y=>by rw[M,oM];exact V j v Y)⟩
def LF(h:gN P u=true):∃d,P.underlying u=some d/\∀k,d≠.int k:=by
 unfold gN at h
 grind
def VV(h:R B H w G)(keep:Bool)(s:Nat)(sv:AV):Step B H.next G w (gY keep H s sv) w G:=by
 unfold gY;split
 .rename_i r off len z;split
  .rename_i cs imm hg;split
   .rename_i hc;simp only[da]at hc;have h1:off+len*s<cs.length:=bb;have h2:=CR hc.2;generalize off+len*s=m at h1 h2;have hgs:∀O b',(H.set r (.cells (cs.take m) imm true)).get O=some b'->(O=r/\b'=.cells (cs.take m) imm true)\/(O≠r/\H.get O=some b'):=fun O b' he=>by
     rw[aM]at he
     grind
    have M:∀O Z U V,(H.set r (.cells (cs.take m) imm true)).get O=some (.cells Z U V)->∃Y,H.get O=some (.cells Y U V)/\(∀(j:Nat) c,Z[j]?=some c->Y[j]?=some c)/\Z.length<=Y.length/\(∀x,fz x Z V=fz x Y V):=fun O Z U V he=>by
     rcases hgs O _ he with⟨rfl,e⟩|⟨_,e⟩
     .simp only[HB.cells.injEq]at e;obtain⟨rfl,rfl,rfl⟩:=e;refine⟨cs,hg,fun j c C=>?_,by rw[oL];omega,fun x=>rfl⟩;rw[uX]at C;split at C
      .exact C
      .simp at C
     simp_all
    refine⟨?_,xT _,zQ _ _,ww _ _,fun _ _ h=>.inl h,ay _,fun _ _ _ h=>.inl h⟩;exact{
     ci:=h.ci
     dv:=h.dv
     lt:=h.lt
     cells:=fun O b o x Z U V hr J j c C=>by
      obtain⟨Y,I,e2,_⟩:=M O Z U V J;exact h.cells O b o x Y U V hr I j c (e2 j c C)
     aP:=fun O b o x Z U V hr J j C hjl=>by
      obtain⟨Y,I,_,e3,_⟩:=M O Z U V J;exact h.aP O b o x Y U V hr I j C ac
     ext:=fun O b o x Z U V hr J=>by
      obtain⟨Y,I,_,e3,e4⟩:=M O Z U V J;have:=h.ext O b o x Y U V hr I;rw[e4];omega
     b7:=fun O b o x Z U V hr J=>by
      obtain⟨Y,I,_,e3,e4⟩:=M O Z U V J;have:=h.b7 O b o x Y U V hr I;omega
     bM:=fun O b o x Z U V hr J j C hjl=>by
      obtain⟨Y,I,_,_,e4⟩:=M O Z U V J;exact h.bM O b o x Y U V hr I j C bb
     apart:=fun r1 b1 o1 x1 cs1 imm1 tip1 r2 b2 o2 x2 cs2 imm2 tip2 hr1 hc1 hr2 hc2 hne j j' q1 q2 q3 q4=>by
      obtain⟨cs01,I,_,_,e14⟩:=M r1 cs1 imm1 tip1 hc1;obtain⟨cs02,e2,_,_,e24⟩:=M r2 cs2 imm2 tip2 hc2;exact h.apart r1 b1 o1 x1 cs01 imm1 tip1 r2 b2 o2 x2 cs02 imm2 tip2 hr1 I hr2 e2 hne j j' q1 bb q3 bb
     map:=fun O b o x es hr J=>by
      rcases hgs O _ J with⟨_,e⟩|⟨_,e⟩
      .simp at e
      .exact h.map O b o x es hr e
     aZ:=fun r1 b1 o1 x1 es r2 b2 o2 x2 hr1 hc1 hr2 hc2 hne=>by
      rcases hgs r1 _ hc1 with⟨_,e⟩|⟨_,e⟩
      .simp at e
      .refine h.aZ r1 b1 o1 x1 es r2 b2 o2 x2 hr1 e hr2 ?_ hne;rw[aM]at hc2
       grind
     dB:=h.dB
     val:=h.val
     ec:=h.ec}
   .exact md h
  .exact md h
 .exact md h
def VW(h:R B H w G){keep:Bool}{ty:TypeId}{sv:AV}{Y xv:Value}(I:VR G sv Y)(hx:VR G x xv)(O:cD P keep H t u sv x=some (c,H')):
 ∃v w' G',(Builtin.append_ #[t,u] ty #[Y,xv]).run P w=.ok v w'/\VR G' c v/\Step B H.next G w H' w' G':=by
 unfold cD at O;split at O
 .rename_i e hd;split at O
  .rename_i s b z hs hb hz;split at O
   .rename_i Ca hst hsrc;obtain⟨du,hu,hni⟩:=LF hst;obtain⟨nv,h1,h2,h3,h4⟩:=GX (P:=P) h hx hsrc;have hnv:nv=[]:=bb;subst hnv;have key:∀a len cap,Y=.slice a len cap->len<=cap->(Builtin.append_ #[t,u] ty #[Y,xv]).run P w=.ok Y w:=fun a len cap e hlc=>by
     subst e;rw[LC hd hu hni hs (n:=0) ac (h3 w) (h4 w (fun _=>rfl))];cases a<;>simp[storeCells]
    split at O
    .simp only[dB]at O;obtain⟨rfl,rfl⟩:=O;refine⟨Y,w,G,?_,I,md h⟩;cases I with
     |sl hr hl hc=>simp_all
    .simp only[dB]at O;obtain⟨rfl,rfl⟩:=O;refine⟨Y,w,G,?_,I,md h⟩;cases I with
     |az vs hz hF hv hc=>simp_all
     |lst0 a cap=>simp_all
    .simp only[dB]at O;obtain⟨rfl,rfl⟩:=O;refine⟨Y,w,G,?_,I,md h⟩;cases I with
     |ag=>simp_all
    .simp at O
   .rename_i n Z hnz hst hsrc;obtain⟨du,hu,hni⟩:=LF hst;obtain⟨nv,h1,h2,h3,h4⟩:=GX (P:=P) h hx hsrc;have hn0:n≠0:=fun e=>bb;have hnl:Z.length=n*s:=by rw[h1.1,h2]
    obtain⟨zv,hzr,hzv⟩:=zU hz;split at O
    .rename_i hcond;obtain⟨hone,hzl⟩:=hcond;have hzs:zv.cells.size=s:=by have:=(hzv G).1;simp_all
     have ht:=VV h keep s sv
     suffices hgoal:∃v w' G',(Builtin.append_ #[t,u] ty #[Y,xv]).run P w=.ok v w'/\VR G' c v/\Step B (gY keep H s sv).next G w H' w' G' by
      obtain⟨v,w',G',g1,g2,g3⟩:=hgoal;exact⟨v,w',G',g1,g2,ht.trans g3⟩
     replace h:=ht.r;clear ht hsrc;generalize gY keep H s sv=H at O h⊢;unfold nL at O;split at O
     ·-- onto nil
      split at O
      .rename_i hroom;simp only[dB]at O;obtain⟨rfl,rfl⟩:=O;cases I;have U:=LD (P:=P) (w:=w) (ty:=ty) hd hu hni hs hb hzr (a:=none) (len:=0) (cap:=0) (n:=n) (ov:=[]) ac (by simpa using hroom.1) (by simpa using hroom.2) (h3 w) (h4 w.drew (fun _=>rfl)) (by simp[Builtin.firstCells]);have J:=CL (h.heap (w':=w.drew) rfl) h1 (Builtin.zeroCells zv.cells (grownCap w (0+n) 0 e-(0+n))).toList e;have hge:=grownCap_ge w (0+n) 0 e;refine⟨_,_,_,U,?_,J.ed⟩;rw[bR]at hge⊢;refine .sl (tJ _ _ _) hge ?_;rw[LB,hzs,h2];have:grownCap w n 0 e*s=n*s+(grownCap w n 0 e-n)*s:=GT;omega
      .simp at O
     ·-- onto a row of its own
      rename_i r off len zz;split at O
      .rename_i cs imm hg;split at O
       .rename_i hcond2;obtain⟨hr1,hr2,hend,rfl,himm⟩:=hcond2;cases I with
        |sl hr hlc hcx=>
         rename_i M m x0 cap;have hHolds:=h.cells _ _ _ _ _ _ _ hr hg;have hex:=h.ext _ _ _ _ _ _ _ hr hg;simp only[fz]at hex;have hoff:off<=cs.length:=ac;obtain⟨ov,o1,o2,o3⟩:=hHolds.e9 (P:=P) (off:=off) (s:=zz) (len:=len) hend (cap:=cap)
         have hrn:r≠H.next:=fun e=>by have:=h.dv _ _ hr;omega
         by_cases hfit:len+n<=cap
         ·-- in its room
          have U:=LC (P:=P) (w:=w) (ty:=ty) hd hu hni hs (a:=some ⟨M,m+off,none⟩) hfit (h3 w) (h4 w (fun _=>rfl));simp only[]at U;rw[oM,iH,hend]at U;have hcap:(len+n)*zz<=cap*zz:=zX _ hfit;rw[wA]at hcap;cases keep with
          |false=>
           simp only[dM,fG,dB]at O;obtain⟨rfl,rfl⟩:=O;obtain⟨w',hw,C⟩:=GO P hr cs.length Z nv cs 0 H w h hg h1 (h1.co hone) ac ac zK aw;rw[hw]at U;simp only[fV]at U;rw[tL,Lf]at C;have hstr:=Lg C.r (r:=r) (cs:=cs++Z) (imm:=imm) hr fO (off:=off) cb;refine⟨_,w',_,U,?_,(C.trans hstr).congr rfl fun k _=>?_⟩
           .refine .sl (tJ _ _ _) hfit ?_;omega
           .rw[aD,aD,iy,iy,aM,CS hoff];simp only[tI,bq]
            grind
          |true=>
           simp only[ft,dB]at O;obtain⟨rfl,rfl⟩:=O;have V:=zT h hr hg (n:=cs.length) himm (ay _) true (fun _=>rfl);obtain⟨w',hw,C⟩:=GO P (G:=G.aG w M m cs.length) (r:=r) (imm:=cs.length) (tip:=true) hr cs.length Z nv cs 0 _ w V.r fO (h1.mono V.ext) (h1.co hone) ac ac zK aw;rw[hw]at U;simp only[fV]at U;rw[tL,Lf]at C;have hgr:((H.set r (.cells cs cs.length true)).set r (.cells (cs++Z) cs.length true)).get r=some (.cells (cs++Z) cs.length true):=fO;have hstr:=Lg C.r (r:=r) (cs:=cs++Z) (imm:=cs.length) hr hgr (off:=off) cb;have hmid:=(V.trans C).trans hstr;have hrr:((G.aG w M m cs.length).add H.next (M,m+off,x0-off)).β r=some (M,m,x0):=by
            simp only[Gh.add];rw[af hrn];exact hr
           have hnoMap:∀r1 b1 o1 x1 es,((G.aG w M m cs.length).add H.next (M,m+off,x0-off)).β r1=some (b1,o1,x1) ->
            ((((H.set r (.cells cs cs.length true)).set r (.cells (cs++Z) cs.length true)).a0 r).alloc (.cells ((cs++Z).drop off) (cs.length-off) true)).get r1=some (.map es)->b1≠M:=fun r1 b1 o1 x1 es g1 g2=>by
            rw[aD,iy,aM,aM]at g2;simp only[tI,bq]at g2;by_cases hne:r1=H.next
            .simp[hne]at g2
            .by_cases hne2:r1=r
             .simp[hne2]at g2
             .simp only[hne,hne2,fG]at g2;have g1':G.β r1=some (b1,o1,x1):=by simp only[Gh.add]at g1;rw[af hne]at g1;exact g1
              exact h.aZ r1 b1 o1 x1 es r M m x0 g1' g2 hr (by rw[hg];rfl) hne2
           have hHolds':jK ((G.aG w M m cs.length).add H.next (M,m+off,x0-off)) w' M m cs:=fun j c hj=>by
            have hjl:j<cs.length:=(gZ.1 hj).1;have h5:=C.r.cells r M m x0 _ _ _ hr hgr j c aX;obtain⟨v,q1,q2⟩:=h5;exact⟨v,q1,q2.mono hstr.ext⟩
           have hFF:∀j,j<cs.length->∃v,((G.aG w M m cs.length).add H.next (M,m+off,x0-off)).F M (m+j)=some v:=fun j hj=>
            V.r.aP r M m x0 cs cs.length true hr fO j hj hj
           have hrev:=Vv hmid.r hrr (h.b7 _ _ _ _ _ _ _ hr hg) hHolds' hFF hnoMap;refine⟨_,w',_,U,?_,(hmid.trans hrev).congr rfl fun k _=>?_⟩
           .refine .sl (tJ _ _ _) hfit ?_;omega
           .rw[aM,aD,aD,iy,aM,aM,aM,CS hoff];simp only[tI,bq]
            grind
         ·-- a Z row
          have hfit':cap<len+n:=ac;have U:=LD (P:=P) (w:=w) (ty:=ty) hd hu hni hs hb hzr (a:=some ⟨M,m+off,none⟩) hfit' hr1 hr2 (h3 w) (h4 w.drew (fun _=>rfl)) (o3 w.drew (fun _=>rfl));have hge:=grownCap_ge w (len+n) cap e;have hlen2:(ov++nv).length=(len+n)*zz:=aX;have hcapx:grownCap w (len+n) cap e*zz=(ov++nv).length+(Builtin.zeroCells zv.cells (grownCap w (len+n) cap e-(len+n))).toList.length:=by
           rw[LB,hzs,hlen2,<-wA];congr 1;omega
          have J:=(CL (h.heap (w':=w.drew) rfl) (o1.append h1) (Builtin.zeroCells zv.cells (grownCap w (len+n) cap e-(len+n))).toList e).ed;have hnn:∀(X:HB) (k:Nat),k≠H.next->(H.alloc X).get k=H.get k:=fun X k hk=>by rw[aD,af hk]
          have hadd:∀p,(G.add H.next p).β H.next=some p:=fun p=>tJ _ _ _
          have hlenX:(cs.drop off++Z).length=(len+n)*zz:=aX;cases keep with
          |false=>
           simp only[dM,fG,dB]at O;obtain⟨rfl,rfl⟩:=O;have hk:=J.r.a0 r;have hgx:((H.alloc (.cells (cs.drop off++Z) 0 true)).a0 r).get H.next=some (.cells (cs.drop off++Z) 0 true):=by
            rw[iy,af (Ne.symm hrn),aD,ai rfl]
           have V:=zT hk (hadd _) hgx (n:=imm-off) (cZ _) aX true (fun _=>rfl);have hst2:Step B H.next G w _ _ _:=⟨hk,J.ext,J.fr,J.new,J.cL,J.mono,J.dj⟩
           refine⟨_,_,_,U,?_,(hst2.trans V).congr rfl fun k _=>?_⟩
           .exact .sl (hadd _) hge ac
           .rw[aM,aD,iy,iy,aD];simp only[tI]
            grind
          |true=>
           simp only[ft,dB]at O;obtain⟨rfl,rfl⟩:=O;have hgx:(H.alloc (.cells (cs.drop off++Z) 0 true)).get H.next=some (.cells (cs.drop off++Z) 0 true):=fc
           have V:=zT J.r (hadd _) hgx (n:=len*zz) (cZ _) aX true (fun _=>rfl);have hgr:((H.alloc (.cells (cs.drop off++Z) 0 true)).set H.next (.cells (cs.drop off++Z) (len*zz) true)).get r=some (.cells cs imm true):=by
            rw[aM,af hrn,hnn _ _ hrn];exact hg
           have hice2:=zT V.r (r:=r) (by
            show(G.add H.next _).β r=_;simp only[Gh.add];rw[af hrn];exact hr) hgr (n:=cs.length) himm (ay _) false aw
           refine⟨_,_,_,U,?_,((J.trans V).trans hice2).congr rfl fun k _=>?_⟩
           .exact .sl (hadd _) hge ac
           .rw[aM,aM,aD,aD,aM];simp only[bq]
            grind
       .simp at O
      .simp at O
     .simp at O
    .simp at O
   .simp at O
  .simp at O
 .simp at O
end
section
variable {P:Program} {B:Bs} {G:Gh} {H H':Hp} {w:World}
def VX(Z:ByteArray):Z.data.toList.length=Z.size:=bb
def LH(h:R B H w G){mv:Value}{I:qR}(Z:VR G m mv)(J:wj H m=some I):
 (mv=.map none/\I=[])\/∃r b o x ms Y,m=.map r/\mv=.map (some b)/\G.β r=some (b,o,x)/\H.get r=some (.map I)/\w.heap[b]?=some (.map ms Y)/\tF G I ms.toList:=by
 unfold wj at J;split at J
 .simp only[aQ]at J;subst J;cases Z;simp_all
 .rename_i r;split at J
  .rename_i j hg;simp only[aQ]at J;subst J;cases Z with
   |map hr=>
    rename_i b o x;obtain⟨ms,Y,V,U⟩:=h.map r b o x _ hr hg;simp_all
  .simp at J
 .simp at J
def z7{ms:Array MapEntry}(h:w.heap[b]?=some (.map ms Y)):(getObj b).run P w=.ok (.map ms Y) w:=by
 simp[getObj,Sem.run,h]
def VY(h:R B H w G){ty:TypeId}(C:VR G x V)(O:gO P H t x=some c):∃v,(Builtin.len_ #[t] ty #[V]).run P w=.ok v w/\VR G c v:=by
 unfold gO at O;split at O
 .rename_i hd;split at O
  .simp only[aQ]at O;subst O;cases C with
   |aj m _ U=>
    subst U;refine⟨_,?_,.int _ _⟩;rw[VX];simp[Builtin.len_,eG hd,goInt]
  .simp at O
 .rename_i e hd;split at O
  .simp only[aQ]at O;subst O;cases C;exact⟨_,zV,.int _ _⟩
  .simp only[aQ]at O;subst O;cases C
   .exact⟨_,zV,.int _ _⟩
   .exact⟨_,zV,.int _ _⟩
  .simp only[aQ]at O;subst O;cases C;exact⟨_,zV,.int _ _⟩
  .simp at O
 .rename_i n e hd;simp only[aQ]at O;subst O;refine⟨.int .i64 n,?_,.int _ _⟩;simp only[Builtin.len_];simp[eG hd,goInt]
 .rename_i Z e hd;split at O
  .rename_i I J;simp only[aQ]at O;subst O;rcases LH h C J with⟨rfl,rfl⟩|⟨r,b,o,j,ms,Y,rfl,rfl,hr,hg,M,z⟩
   .exact⟨_,zV,.int _ _⟩
   .refine⟨.int .i64 I.length,?_,.int _ _⟩;have:ms.size=I.length:=by have:=z.1;simp_all
    simp[Builtin.len_,eG hd,z7 M,goInt,this]
  .simp at O
 .simp at O
def VZ{V:Bool}{Z:Value}(C:VR G x Z)(U:VR G y O)(h:mm V x y=some c):∃v,((if V then Builtin.max2 else Builtin.min2) Z O).run P w=.ok v w/\VR G c v:=by
 unfold mm at h;split at h
 .simp only[aQ]at h;subst h;cases C;cases U;cases V
  .refine⟨_,rfl,?_⟩;simp only[dM,fG,rG];exact .int _ _
  .refine⟨_,rfl,?_⟩;simp only[ft,rG];exact .int _ _
 .simp at h
theorem GY{Y:Bool}:∀{U:qu}{V:qH}{x c:AV}{Z:Value},VR G x Z->cc G U V->uO Y x U=some c ->
 ∃v,(V.foldlM (if Y then Builtin.max2 else Builtin.min2) Z).run P w=.ok v w/\VR G c v
 |[],V,x,c,Z,hx,hxs,h=>by
  simp only[uO,aQ]at h;subst h;have:V=[]:=by have:=hxs.1;simpa using this.symm
  simp_all
 |y::ys,[],_,_,_,_,hxs,_=>by have:=hxs.1;simp at this
 |y::ys,yv::yvs,x,c,Z,hx,hxs,h=>by
  obtain⟨m,j⟩:=hxs.bp;simp only[uO]at h;split at h
  .rename_i z C;obtain⟨O,M,J⟩:=VZ (P:=P) (w:=w) hx m C;obtain⟨v,I,k2⟩:=GY J j h;simp_all
  .simp at h
def GZ(h:nM P t=some d):P.underlying t=some d/\((∃k,d=.int k)\/d=.string\/d=.bool):=by
 unfold nM at h
 grind
def G3{r:Bool}(C:VR G x V)(U:VR G y O)(h:pH d x y=some r):Instr.sameNow d V O=some r:=by
 unfold pH at h;split at h
 .split at h
  .cases C;cases U;exact h
  .simp at h
 .split at h
  .cases C with
   |aj a _ Z=>cases U with
    |aj b _ hb=>
     subst Z hb;simp only[aQ]at h;subst h;simp only[Instr.sameNow,aQ];show(a.data == b.data)=(a.data.toList == b.data.toList);simp_all
  .simp at h
 .split at h
  .cases C;cases U;exact h
  .simp at h
 .simp at h
theorem G4{d:TypeDesc}{k:AV}{kv:Value}(z:VR G k kv):∀{I:qR}{ms:List MapEntry}{i:Nat},tF G I ms ->
 (fM d k I i=some none->Instr.findNow d kv ms i=some none) /\
 (∀j v,fM d k I i=some (some (j,v))->∃k' m,I[j-i]?=some (k',v)/\ms[j-i]?=some m/\i<=j/\pH d k k'=some true/\Instr.findNow d kv ms i=some (some (j,m.val)))
 |[],ms,i,he=>by
  have:ms=[]:=by have:=he.1;grind
  subst this;exact⟨fun _=>rfl,fun j v h=>by simp[fM]at h⟩
 |e::I,[],i,he=>by have:=he.1;simp at this
 |(k',v')::I,m::ms,i,he=>by
  obtain⟨Y,h2⟩:=he.2 0 (k',v') m rfl rfl;have V:tF G I ms:=⟨by simpa using he.1,fun j a b O hb=>he.2 (j+1) a b (by simpa using O) (by simpa using hb)⟩;obtain⟨U,M⟩:=G4 (d:=d) z (i:=i+1) V;constructor
  .intro h;simp only[fM]at h;split at h
   .simp at h
   .rename_i Z;have:=G3 z Y Z;simp only[Instr.findNow,this];exact U h
   .simp at h
  .intro j v h;simp only[fM]at h;split at h
   .rename_i Z;simp only[dB]at h;obtain⟨rfl,rfl⟩:=h;have:=G3 z Y Z;exact⟨k',m,aw,aw,ay _,Z,by simp only[Instr.findNow,this]⟩
   .rename_i Z;have:=G3 z Y Z;obtain⟨C,J,g1,g2,g3,g4,g5⟩:=M j v h;have e1:j-i=(j-(i+1))+1:=ac;refine⟨C,J,bb,bb,ac,g4,?_⟩;simp only[Instr.findNow,this];exact g5
   .simp at h
theorem V0(n:Nat)(hd:nM P M=some d)(e:Bool)(kv:Value):(Instr.checkKey e (n+1) M kv).run P w=.ok () w:=by
 obtain⟨m,j⟩:=GZ hd;simp only[Instr.checkKey,fU,eG m,fV];rcases j with⟨k,rfl⟩|rfl|rfl<;>rfl
def z8(hd:nM P M=some d)(e:Bool)(kv:Value):(Instr.checkKey e 10000 M kv).run P w=.ok () w:=V0 9999 hd e kv
def z9(hd:P.underlying M=some d){kv:Value}{ms:List MapEntry}{r:Option (Nat×Value)}(h:Instr.findNow d kv ms 0=some r):(Instr.findKey M kv ms).run P w=.ok r w:=by
 simp[Instr.findKey,eG hd,h]
def V3(hd:P.underlying t=some (.map M e))(U:nM P M=some d){mv kv:Value}{ok:Bool}{ms:Array MapEntry}
 (J:(mv=.map none/\ms=#[])\/∃b Y,mv=.map (some b)/\w.heap[b]?=some (.map ms Y)) :
 (∀j v,Instr.findNow d kv ms.toList 0=some (some (j,v))->(Instr.lookup t mv kv ok).run P w=.ok (if ok then .tuple #[v,.bool true]else v) w) /\
 (∀z,(zeroValue e).run P w=.ok z w->Instr.findNow d kv ms.toList 0=some none->(Instr.lookup t mv kv ok).run P w=.ok (if ok then .tuple #[z,.bool false]else z) w):=by
 have V:=(GZ U).1;rcases J with⟨rfl,rfl⟩|⟨b,Y,rfl,O⟩
 .refine⟨fun j v Z=>by simp[Instr.findNow]at Z,fun z C Z=>?_⟩;have m:=z9 (P:=P) (w:=w) V Z;simp only[Instr.lookup,fU,eG hd,fV,l7,z8 U,m,C]
 .refine⟨fun j v Z=>?_,fun z C Z=>?_⟩
  .have m:=z9 (P:=P) (w:=w) V Z;simp only[Instr.lookup,fU,eG hd,fV,z7 O,l7,z8 U,m]
  .have m:=z9 (P:=P) (w:=w) V Z;simp only[Instr.lookup,fU,eG hd,fV,z7 O,l7,z8 U,m,C]
def V4(h:R B H w G){k:AV}{mv kv:Value}{ok:Bool}(hm:VR G m mv)(hk:VR G k kv)(O:jS P H t m k ok=some c):
 ∃v,(Instr.lookup t mv kv ok).run P w=.ok v w/\VR G c v:=by
 unfold jS at O;split at O
 .rename_i kt e hd;split at O
  .rename_i es U z C;obtain⟨ms,M,J⟩:∃ms:Array MapEntry,((mv=.map none/\ms=#[])\/∃b Y,mv=.map (some b)/\w.heap[b]?=some (.map ms Y))/\tF G es ms.toList:=by
    rcases LH h hm z with⟨rfl,rfl⟩|⟨r,b,o,xx,ms,Y,rfl,rfl,hr,hg,hw,he⟩
    .exact⟨#[],.inl ⟨rfl,rfl⟩,rfl,aw⟩
    simp_all
   obtain⟨f1,f2⟩:=G4 (d:=U) hk (i:=0) J;obtain⟨r1,r2⟩:=V3 (kv:=kv) (ok:=ok) hd C M;split at O
   .rename_i j v V;simp only[aQ]at O;subst O;obtain⟨k',m',g1,g2,_,_,g5⟩:=f2 j v V;have Z:=(J.2 _ _ _ g1 g2).2;refine⟨_,r1 _ _ g5,?_⟩;cases ok
    .exact Z
    .exact .a6 (vs:=[m'.val,.bool true]) rfl (jJ Z (jJ (.bool true) (mc _))).2
   .rename_i V;split at O
    .rename_i v Z;simp only[aQ]at O;subst O;obtain⟨zv,z1,I⟩:=Vw Z;refine⟨_,r2 _ (z1 w) (f1 V),?_⟩;cases ok
     .exact I G
     .exact .a6 (vs:=[zv,.bool false]) rfl (jJ (I G) (jJ (.bool false) (mc _))).2
    .simp at O
   .simp at O
  .simp at O
 .simp at O
end
section
variable {P:Program} {B:Bs} {G:Gh} {H H':Hp} {w:World}
def LJ(h:R B H w G){r o x:Nat}{es Y:qR}{ms':Array MapEntry}{clock':Nat}(hr:G.β r=some (b,o,x))(hg:H.get r=some (.map es))(he:tF G Y ms'.toList):
 Step B H.next G w (H.set r (.map Y)) {w with heap:=w.heap.setIfInBounds b (.map ms' clock') } G:=by
 obtain⟨ms,clock,hw,_⟩:=h.map r b o x es hr hg;have hb:b<w.heap.size:=(h.lt r b o x hr).2
 let w':World:={w with heap:=w.heap.setIfInBounds b (.map ms' clock') }
 have I:∀k,k≠b->w'.heap[k]?=w.heap[k]?:=fun k z=>by
  grind
 have hheapb:w'.heap[b]?=some (.map ms' clock'):=by
  grind
 have M:∀b' V v,w.cell? ⟨b',V,none⟩=some v->b'≠b:=fun b' V v hc e=>by
  subst e;unfold World.cell? at hc;simp_all
 have J:∀b' V v,w.cell? ⟨b',V,none⟩=some v->w'.cell? ⟨b',V,none⟩=some v:=fun b' V v hc=>by
  rw[World.cell?_of_block (w:=w) (I b' (M b' V v hc))];exact hc
 have U:∀k,k≠r->(H.set r (.map Y)).get k=H.get k:=fun k z=>ju;have hgetr:(H.set r (.map Y)).get r=some (.map Y):=fO;refine⟨?_,xT _,⟨rfl,rfl,rfl,aw,fun k z hn=>I k (fun e=>hn r b o x hr e.symm)⟩,ww _ _,fun _ _ h=>.inl h,ay _,fun _ _ _ h=>.inl h⟩;exact{
  ci:=by have:=h.ci;simp_all
  dv:=h.dv
  lt:=fun r b o x hr=>by have:=h.lt r b o x hr;simp_all
  cells:=fun k b' V Z m imm C z hc=>by
   by_cases e:k=r
   .simp_all
   .rw[U k e]at hc;intro j c hj;obtain⟨v,h1,h2⟩:=h.cells k b' V Z m imm C z hc j c hj
    grind
  aP:=fun k b' V Z m imm C z hc=>by
   by_cases e:k=r
   .simp_all
   .rw[U k e]at hc;exact h.aP k b' V Z m imm C z hc
  ext:=fun k b' V Z m imm C z hc=>by
   by_cases e:k=r
   .simp_all
   .rw[U k e]at hc;exact h.ext k b' V Z m imm C z hc
  b7:=fun k b' V Z m imm C z hc=>by
   by_cases e:k=r
   .simp_all
   .rw[U k e]at hc;exact h.b7 k b' V Z m imm C z hc
  bM:=fun k b' V Z m imm C z hc j hj hjl=>by
   by_cases e:k=r
   .simp_all
   .rw[U k e]at hc;obtain⟨⟨v,h1⟩,h2,h3⟩:=h.bM k b' V Z m imm C z hc j hj hjl;refine⟨⟨v,J _ _ _ h1⟩,?_,h3⟩;rw[World.frozen?_of_block (w:=w) (I b' (M _ _ _ h1))];exact h2
  apart:=fun k1 b1 o1 x1 cs1 imm1 tip1 k2 b2 o2 x2 cs2 imm2 tip2 hk1 O hk2 hc2=>by
   by_cases e1:k1=r
   .simp_all
   .by_cases e2:k2=r
    .simp_all
    .rw[U k1 e1]at O;rw[U k2 e2]at hc2;exact h.apart k1 b1 o1 x1 cs1 imm1 tip1 k2 b2 o2 x2 cs2 imm2 tip2 hk1 O hk2 hc2
  map:=fun k b' V Z es1 z hc=>by
   by_cases e:k=r
   .simp_all
   .rw[U k e]at hc;obtain⟨ms1,clock1,h1,h2⟩:=h.map k b' V Z es1 z hc;refine⟨ms1,clock1,?_,h2⟩;rw[I b' (fun eb=>h.aZ k b' V Z es1 r b o x z hc hr (by rw[hg];rfl) e eb)];exact h1
  aZ:=fun k1 b1 o1 x1 es1 k2 b2 o2 x2 hk1 O hk2 hs hne=>by
   have hs':(H.get k2).isSome:=by
    grind
   by_cases e1:k1=r
   .subst e1;exact h.aZ k1 b1 o1 x1 es k2 b2 o2 x2 hk1 hg hk2 hs' hne
   .rw[U k1 e1]at O;exact h.aZ k1 b1 o1 x1 es1 k2 b2 o2 x2 hk1 O hk2 hs' hne
  dB:=fun b' V v hf=>J _ _ _ (h.dB b' V v hf)
  val:=h.val
  ec:=h.ec}
def LK{ms ms':Array MapEntry}{clock':Nat}(h:w.heap[b]?=some (.map ms Y)):
 (setObj b (.map ms' clock')).run P w=.ok () {w with heap:=w.heap.setIfInBounds b (.map ms' clock') }:=by
 simp[setObj,Sem.run,h]
def V7(n:Nat)(C:VR G x V)(U:VR G y O)(h:pH d x y=some true):Instr.sameBits n O V=true:=by
 unfold pH at h;split at h
 .split at h
  .split at h
   .rename_i e;subst e;cases C;cases U;simp only[aQ,tM]at h;subst h;cases n<;>simp[Instr.sameBits]
   .simp at h
  .simp at h
 .split at h
  .cases C with
   |aj a _ Z=>cases U with
    |aj b _ hb=>
     subst Z hb;simp only[aQ,tM]at h;have I:(b == a)=true:=by
      show(b.data == a.data)=true;simp_all
     cases n<;>simp[Instr.sameBits,I]
  .simp at h
 .split at h
  .cases C;cases U;simp only[aQ,tM]at h;subst h;cases n<;>simp[Instr.sameBits]
  .simp at h
 .simp at h
def V8{old:Value}(h:Instr.sameBits 10000 old O=true):(Instr.keyThatStays old O).run P w=.ok O w:=by
 unfold Instr.keyThatStays;simp_all
def V9(h:R B H w G){k v:AV}{mv kv vv:Value}(hm:VR G m mv)(hk:VR G k kv)(hv:VR G v vv)(U:oJ P H t m k v=some H'):
 ∃w',(Instr.mapUpdate t mv kv vv).run P w=.ok () w'/\Step B H.next G w H' w' G:=by
 unfold oJ at U;split at U
 .rename_i kt e hd;split at U
  .rename_i r V C;split at U
   .rename_i es hg;cases hm with
    |map hr=>
     rename_i b o x;obtain⟨ms,Y,I,z⟩:=h.map r b o x es hr hg;obtain⟨f1,f2⟩:=G4 (d:=V) hk (i:=0) z;have J:=(GZ C).1;split at U
     .rename_i j v0 hf;simp only[aQ]at U;subst U;obtain⟨k',m',g1,g2,_,g4,g5⟩:=f2 j v0 hf;simp only[Nat.sub_zero]at g1 g2;have hjl:j<ms.size:=aX;have hjm:ms[j]?=some m':=by simpa using g2
      have M:=V7 10000 hk (z.2 j _ _ g1 g2).1 g4;have Z:=z9 (P:=P) (w:=w) J g5;refine⟨_,?_,LJ h hr hg (ms':=ms.modify j fun e=>{e with key:=kv,val:=vv}) (clock':=Y) ?_⟩
      .simp only[Instr.mapUpdate,fU,eG hd,fV,z7 I,z8 C,Z,hjm,sD,bN,V8 M,LK I]
      .refine⟨by have:=z.1;simp_all,fun i a c O hc=>?_⟩;rw[sE]at O;rw[z6,Array.getElem?_modify]at hc;by_cases e:j=i
       .grind
       .rw[af e]at O hc;exact z.2 i a c O CE
     .rename_i hf;simp only[aQ]at U;subst U;have Z:=z9 (P:=P) (w:=w) J (f1 hf);refine⟨_,?_,LJ h hr hg (ms':=ms.push {key:=kv,val:=vv,born:=Y}) (clock':=Y+1) ?_⟩
      .simp only[Instr.mapUpdate,fU,eG hd,fV,z7 I,z8 C,Z,LK I]
      .refine⟨by have:=z.1;simpa using this,fun i a c O hc=>?_⟩;rw[Array.toList_push]at hc;have hl:=z.1;by_cases hi:i<es.length
       .rw[rD hi]at O;rw[rD ac]at hc;exact z.2 i a c O hc
       grind
     .simp at U
   .simp at U
  .simp at U
 .simp at U
theorem LL:∀{I:qu}{bs:qA}{vs:qH},wm I=some bs->cc G I vs->∃C:qy,vs=C.map (Value.int .u8)/\bs=C.map fun n=>UInt8.ofNat n.toNat
 |[],bs,vs,h,hv=>by
  simp only[wm,aQ]at h;subst h;have:vs=[]:=by have:=hv.1;simpa using this.symm
  simp_all
 |c::I,bs,[],h,hv=>by have:=hv.1;simp at this
 |c::I,bs,v::vs,h,hv=>by
  obtain⟨m,j⟩:=hv.bp;unfold wm at h;split at h
  .simp_all
  .rename_i n V e;simp only[eJ]at e;obtain⟨rfl,rfl⟩:=e;split at h
   .rename_i M hb;simp only[aQ]at h;subst h;obtain⟨C,rfl,rfl⟩:=LL hb j;cases m;exact⟨n::C,rfl,rfl⟩
   .simp at h
  .simp at h
def Wa(ns:qy):∀s:ByteArray,(ns.foldl (fun r n=>r.push (UInt8.ofNat n.toNat)) s).data.toList=s.data.toList++ns.map fun n=>UInt8.ofNat n.toNat:=by
 induction ns with
 |nil=>intro s;simp
 |cons n ns ih=>simp_all
def Wb(h:R B H w G){m U:TypeId}{xv:Value}(C:VR G x xv)(M:kX P H m U x=some c):∃v,(convert m U xv).run P w=.ok v w/\VR G c v:=by
 unfold kX at M;split at M
 .rename_i e Z hd;split at M
  .rename_i J;split at M
   .rename_i n cs V;split at M
    .rename_i bs Y;obtain⟨nv,h1,h2,h3,h4⟩:=GX (P:=P) h C V;obtain⟨ns,O,rfl⟩:=LL Y h1;split at M
     .simp only[aQ]at M;subst M;cases C with
      |sl hr hl hcx=>
       rename_i b o xx cap;have z:=h3 w;simp[Builtin.lenOf]at z;subst z;have j:=h4 w (fun _=>rfl);simp only[Builtin.firstCells,oN]at j;rw[O]at j;refine⟨_,by rw[run_convert_bytes_string w m U e _ _ _ Z J hd,run_bytesToString w _ _ _ ns j],.aj _ _ ?_⟩;rw[Wa];rfl
     .simp only[aQ]at M;subst M;cases C;have z:=h3 w;simp[Builtin.lenOf]at z;have:ns=[]:=by
       grind
      subst this;refine⟨.string .empty,?_,.aj _ _ rfl⟩;rw[run_convert_bytes_string w m U e _ _ _ Z J hd];rfl
     .simp at M
    .simp at M
   .simp at M
  .simp at M
 .rename_i ds k hn Z hd;split at M
  .simp only[aQ]at M;subst M;cases C;refine⟨_,?_,.int _ _⟩;simp[convert,eG Z,eG hd,Conv.intToInt]
  .simp only[aQ]at M;subst M;cases C;rename_i k0 e0;refine⟨_,?_,.sx _ _⟩;simp[convert,eG Z,eG hd,Conv.intToInt,Sx.eval]
  .simp at M
 .rename_i hn Z hd;split at M
  .simp only[aQ]at M;subst M;have I:=C;cases C with
   |aj sv _ J=>
    refine⟨.string sv,?_,I⟩;simp[convert,eG Z,eG hd]
  .simp at M
 .simp at M
end
section
variable {P:Program} {B:Bs} {G:Gh} {H H':Hp} {w:World}
def wD(G:Gh)(E:aq)(a:Act)(xs:Array Operand):Prop:=∀x∈xs,∀c,aT E x=some c->VR G c (a.eval x)
theorem CX{E:aq}{a:Act}:∀{z:List Operand}{I:qu},(∀x∈z,∀c,aT E x=some c->VR G c (a.eval x))->jj E z=some I->cc G I (z.map a.eval)
 |[],I,_,h=>by
  simp only[jj,aQ]at h;subst h;exact mc G
 |x::z,I,hk,h=>by
  simp only[jj]at h;split at h
  .rename_i v vs Z C;simp only[aQ]at h;subst h;exact jJ (hk x aw v Z) (CX (fun y hy=>hk y (by simp[hy])) C)
  .simp at h
def ml{s:Sem Value}(h:R B H w G)(U:∃v,s.run P w=.ok v w/\VR G c v):wz P B H G w (do pure (.value (<-s))) c H:=by
 obtain⟨v,m,j⟩:=U;exact⟨.value v,w,G,v,by simp[m],.inl rfl,j,md h⟩
def x4{s:Sem Value}(U:∃v I J,s.run P w=.ok v I/\VR J c v/\Step B H.next G w H' I J):wz P B H G w (do pure (.value (<-s))) c H':=by
 obtain⟨v,I,J,m,j,C⟩:=U;exact⟨.value v,I,J,v,by simp[m],.inl rfl,j,C⟩
def LM{s:Sem Unit}(U:∃I,s.run P w=.ok () I/\Step B H.next G w H' I G):wz P B H G w (do s;pure .skip) dH H':=by
 obtain⟨I,m,j⟩:=U;exact⟨.skip,I,G,undef,by simp[m],.inr ⟨rfl,rfl⟩,zR G,j⟩
def LN{x:Option Operand}{c:qE}(z:∀y∈x.toArray,∀c,aT E y=some c->VR G c (a.eval y))(h:kY E x=some c):wC G c (x.map a.eval):=by
 unfold kY at h;split at h
 .simp only[aQ]at h;subst h;exact trivial
 .rename_i y;split at h
  .rename_i v Z;simp only[aQ]at h;subst h;exact z y aw v Z
  .simp at h
def Wc{D:BinOp->Sx->Sx->qJ}(V:uS o=true)(Z:wD G E a o.op.operands)(m:dK P D E H o.op=some (c,H')):rF P G w (execOp a.eval o) Next.value c H H':=by
 obtain⟨j,op,ty,pos,O,guard⟩:=o;simp only[]at m Z;cases op<;>simp only[uS,iu,dM]at V
 case alloc t=>
  simp only[dK]at m;unfold zw at m;split at m
  .rename_i z C;simp only[dB]at m;obtain⟨rfl,rfl⟩:=m;obtain⟨Y,z1,z2⟩:=zU C;refine rF.next ⟨.cells z 0 true,.cells (Y.cells.toList++[]).toArray t,Y.cells.toList.length+0,.pointer (some ⟨w.heap.size,0,none⟩),rfl,?_,.cells z Y.cells.toList [] t (z2 G),fun J hG=>.ptr (off:=0) hG⟩
   simp[Instr.alloc,z1,newVar,newRow]
  .simp at m
 case box t x=>
  simp only[dK]at m;unfold zx at m;split at m
  .rename_i v U;simp only[dB]at m;obtain⟨rfl,rfl⟩:=m;have hx:=(Z x fH _ U).cells;refine rF.next ⟨.cells v.cells 0 true,.cells ((a.eval x).cells.toList++[]).toArray t,(a.eval x).cells.toList.length+0,.pointer (some ⟨w.heap.size,0,none⟩),rfl,?_,.cells v.cells _ [] t hx,fun J hG=>.ptr (off:=0) hG⟩
   simp[Instr.box,newVar,newRow]
  .simp at m
 case buildSlice t len parts=>
  simp only[dK]at m;unfold zy at m;split at m
  .rename_i ps I;obtain⟨q1,q2⟩:=CV (G:=G) (a:=a) (fun p hp=>Z p.2 (by simp only[Op.operands,List.mem_toArray,mh];exact⟨p,hp,rfl⟩)) I;have:=Lz (P:=P) (w:=w) q1 q2 m;have he:(parts.toList.map fun x=>(x.1,a.eval x.2)).toArray=parts.map fun(i,x)=>(i,a.eval x):=by
    apply CQ;simp
   rw[he]at this;exact this.next
  .simp at m
 case makeMap t r=>
  simp only[dK]at m;unfold zC at m;split at m
  .simp only[dB]at m;obtain⟨rfl,rfl⟩:=m;refine rF.next ⟨.map [],.map #[] 0,0,.map (some w.heap.size),rfl,?_,.map,fun J hG=>.map hG⟩
   simp[Instr.makeMap]
  .simp at m
 case makeSlice t l c'=>
  simp only[dK]at m;unfold zD at m;split at m
  .rename_i lv cv M hc;exact(LA (Z l fH _ M) (Z c' fH _ hc) m).next
  .simp at m
 grind
def Wd(h:R B H w G)(Y:wD G E a o.op.operands)(Z:dK P B.cC.dI E H o.op=some (c,H')):wz P B H G w (execOp a.eval o) c H':=by
 obtain⟨dst,op,ty,pos,after,guard⟩:=o;simp only[]at Z Y;cases op<;>simp only[dK,reduceCtorEq]at Z
 case move x=>
  obtain⟨V,rfl⟩:=lM Z;exact xX h rfl (Y x fH _ V)
 case assign x=>
  obtain⟨V,rfl⟩:=lM Z;exact xX h rfl (Y x fH _ V)
 case pick x y z=>
  unfold Cn at Z;split at Z
  .rename_i hc;obtain⟨V,rfl⟩:=lM Z;have hb:=Y x fH _ hc;have:a.eval x=.bool true:=by generalize a.eval x=v at hb;cases hb;rfl
   exact xX h (v:=a.eval y) (by simp[execOp,asBool,this]) (Y y fH _ V)
  .rename_i hc;obtain⟨V,rfl⟩:=lM Z;have hb:=Y x fH _ hc;have:a.eval x=.bool false:=by generalize a.eval x=v at hb;cases hb;rfl
   exact xX h (v:=a.eval z) (by simp[execOp,asBool,this]) (Y z fH _ V)
  .simp at Z
 case alloc t=>
  unfold zw at Z;split at Z
  .rename_i z hz;simp only[dB]at Z;obtain⟨rfl,rfl⟩:=Z;obtain⟨zv,z1,z2⟩:=zU hz;have j:=CL h (z2 G) [] t;rw[aS,zW]at j;refine x4 ⟨.pointer (some ⟨w.heap.size,0,none⟩),_,_,?_,?_,j⟩
   .simp[Instr.alloc,z1,newVar,newRow]
   .exact .ptr (off:=0) (tJ _ _ _)
  .simp at Z
 case box t x=>
  unfold zx at Z;split at Z
  .rename_i v U;simp only[dB]at Z;obtain⟨rfl,rfl⟩:=Z;have j:=CL h (Y x fH _ U).cells [] t;rw[aS,zW]at j;refine x4 ⟨.pointer (some ⟨w.heap.size,0,none⟩),_,_,?_,?_,j⟩
   .simp[Instr.box,newVar,newRow]
   .exact .ptr (off:=0) (tJ _ _ _)
  .simp at Z
 case build t parts=>
  unfold Co at Z;split at Z
  .rename_i ps I;obtain⟨V,rfl⟩:=lM Z;obtain⟨q1,q2⟩:=CV (G:=G) (a:=a) (fun p hp=>Y p.2 Ls) I;have:=VQ (P:=P) (w:=w) q1 q2 V;have J:(parts.toList.map fun x=>(x.1,a.eval x.2)).toArray=parts.map fun(i,x)=>(i,a.eval x):=by
    grind
   rw[J]at this;exact ml h this
  .simp at Z
 case buildSlice t len parts=>
  unfold zy at Z;split at Z
  .rename_i ps I;obtain⟨q1,q2⟩:=CV (G:=G) (a:=a) (fun p hp=>Y p.2 Ls) I;have:=(Lz (P:=P) (w:=w) q1 q2 Z).sim h;have J:(parts.toList.map fun x=>(x.1,a.eval x.2)).toArray=parts.map fun(i,x)=>(i,a.eval x):=by
    grind
   rw[J]at this;exact x4 this
  .simp at Z
 case load t x=>
  unfold zA at Z;split at Z
  .rename_i v U;obtain⟨V,rfl⟩:=lM Z;exact ml h (Ln h (Y x fH _ U) V)
  .simp at Z
 case store t x y=>
  unfold Cp at Z;split at Z
  .rename_i av vv ha U;split at Z
   .rename_i H1 hs;simp only[dB]at Z;obtain⟨rfl,rfl⟩:=Z;exact LM (Vx h (Y x fH _ ha) (Y y fH _ U) hs)
   .simp at Z
  .simp at Z
 case nilCheck x=>
  unfold Cq at Z;split at Z
  .rename_i r off U;simp only[dB]at Z;obtain⟨rfl,rfl⟩:=Z;have hx:=Y x fH _ U;refine xX h (v:=a.eval x) ?_ hx;simp only[execOp];generalize a.eval x=v at hx⊢;cases hx;rfl
  .rename_i cs U;simp only[dB]at Z;obtain⟨rfl,rfl⟩:=Z;have hx:=Y x fH _ U;refine xX h (v:=a.eval x) ?_ hx;simp only[execOp];generalize a.eval x=v at hx⊢;cases hx;rfl
  .simp at Z
 case binOp op t x y yt=>
  unfold Cr at Z;split at Z
  .rename_i O yv hx hy;obtain⟨V,rfl⟩:=lM Z;exact ml h (VM (by rw[h.val];exact h.ec) (Y x fH _ hx) (Y y fH _ hy) V)
  .simp at Z
 case unOp op t x=>
  unfold Ct at Z;split at Z
  .rename_i O hx;obtain⟨V,rfl⟩:=lM Z;exact ml h (VN (Y x fH _ hx) V)
  .simp at Z
 case convert s d x=>
  unfold zB at Z;split at Z
  .rename_i O hx;obtain⟨V,rfl⟩:=lM Z;exact ml h (Wb h (Y x fH _ hx) V)
  .simp at Z
 case makeFunc fn first captured=>
  unfold Cu at Z;split at Z
  .rename_i f vs M hvs;simp only[dB]at Z;obtain⟨rfl,rfl⟩:=Z;have hf:first=#[]:=bb
   subst hf;have:=CX (G:=G) (a:=a) (fun x hx=>Y x (by simp[Op.operands];simpa using hx)) hvs;refine ml h ⟨.func (.func f) #[] (captured.map a.eval),by simp[Instr.makeFunc],?_⟩;have J:captured.map a.eval=(captured.toList.map a.eval).toArray:=aX;rw[J];exact .bJ this.1 this.2
  .simp at Z
 case makeMap t r=>
  unfold zC at Z;split at Z
  .simp only[dB]at Z;obtain⟨rfl,rfl⟩:=Z;exact x4 ⟨.map (some w.heap.size),_,_,by simp[Instr.makeMap],.map (tJ _ _ _),Vm h⟩
  .simp at Z
 case makeSlice t l c'=>
  unfold zD at Z;split at Z
  .rename_i lv cv hl hc;exact x4 ((LA (Y l fH _ hl) (Y c' fH _ hc) Z).sim h)
  .simp at Z
 case slice t x lo C mx=>
  unfold zE at Z;split at Z
  .rename_i O l hh hx hl hi';obtain⟨V,rfl⟩:=lM Z;exact ml h (VU h (Y x fH _ hx) (LN (fun y hy=>Y y (by simp[Op.operands]at *;simp[hy])) hl) (LN (fun y hy=>Y y (by simp[Op.operands]at *;simp[hy])) hi') V)
  .simp at Z
 case fieldAddr t x f=>
  unfold Cv at Z;split at Z
  .rename_i O hx;obtain⟨V,rfl⟩:=lM Z;exact ml h (Vy (Y x fH _ hx) V)
  .simp at Z
 case field t x f=>
  unfold Cw at Z;split at Z
  .rename_i O hx;obtain⟨V,rfl⟩:=lM Z;exact ml h (Vz (Y x fH _ hx) V)
  .simp at Z
 case indexAddr t x i=>
  unfold Cy at Z;split at Z
  .rename_i O iv hx C;obtain⟨V,rfl⟩:=lM Z;exact ml h (VA (Y x fH _ hx) (Y i fH _ C) V)
  .simp at Z
 case index t x i=>
  unfold Cz at Z;split at Z
  .rename_i O iv hx C;obtain⟨V,rfl⟩:=lM Z;exact ml h (VB (Y x fH _ hx) (Y i fH _ C) V)
  .simp at Z
 case lookup t m k ok=>
  unfold zF at Z;split at Z
  .rename_i mv kv hm hk;obtain⟨V,rfl⟩:=lM Z;exact ml h (V4 h (Y m fH _ hm) (Y k fH _ hk) V)
  .simp at Z
 case mapUpdate t m k v=>
  unfold CA at Z;split at Z
  .rename_i mv kv vv hm hk U;split at Z
   .rename_i H1 hs;simp only[dB]at Z;obtain⟨rfl,rfl⟩:=Z;exact LM (V9 h (Y m fH _ hm) (Y k fH _ hk) (Y v fH _ U) hs)
   .simp at Z
  .simp at Z
 case extract x i=>
  unfold CB at Z;split at Z
  .rename_i O hx;obtain⟨V,rfl⟩:=lM Z;exact ml h (VC (Y x fH _ hx) V)
  .simp at Z
def We(h:R B H w G){keep:Bool}{b:Builtin}{J:Array TypeId}{ty:TypeId}{consts:qL}(Z:cc G cs vs)(hb:sB P keep H b J.toList cs=some (c,H')):
 wz P B H G w (builtin b J ty consts vs.toArray) c H':=by
 unfold sB at hb;split at hb
 .split at hb
  .rename_i t u s x O;have U:J=#[t,u]:=aX;subst U
   match vs,Z with
   |[I,V],Z=>
    obtain⟨m,j⟩:=Z.bp;obtain⟨C,_⟩:=j.bp;exact x4 (VW h m C hb)
   |[],Z=>have:=Z.1;simp at this
   |[_],Z=>have:=Z.1;simp at this
   |_::_::_::_,Z=>have:=Z.1;simp at this
  .simp at hb
 .split at hb
  .rename_i t x O;have U:J=#[t]:=aX;subst U;split at hb
   .rename_i v M;simp only[dB]at hb;obtain⟨rfl,rfl⟩:=hb
    match vs,Z with
    |[V],Z=>
     obtain⟨m,_⟩:=Z.bp;exact ml h (VY h m M)
    |[],Z=>have:=Z.1;simp at this
    |_::_::_,Z=>have:=Z.1;simp at this
   .simp at hb
  .simp at hb
 .split at hb
  .rename_i x z;split at hb
   .rename_i v Y;simp only[dB]at hb;obtain⟨rfl,rfl⟩:=hb
    match vs,Z with
    |[],Z=>have:=Z.1;simp at this
    |V::xvs,Z=>
     obtain⟨m,j⟩:=Z.bp;have:=GY (P:=P) (w:=w) m j Y;exact ml h (by simpa [Builtin.max_]using this)
   .simp at hb
  .simp at hb
 .split at hb
  .rename_i x z;split at hb
   .rename_i v Y;simp only[dB]at hb;obtain⟨rfl,rfl⟩:=hb
    match vs,Z with
    |[],Z=>have:=Z.1;simp at this
    |V::xvs,Z=>
     obtain⟨m,j⟩:=Z.bp;have:=GY (P:=P) (w:=w) m j Y;exact ml h (by simpa [Builtin.min_]using this)
   .simp at hb
  .simp at hb
 .simp at hb
end
def G5:AX->Exit
 | .normal=>.normal
 | .exit id=>.exit id
 | .ret=>.ret
def lO(B:Bs)(N z:Nat)(G:Gh)(w:World)(x:AX)(V:aq)(H':Hp):Exit->Act->World->Prop:=fun e m I=>
 e=G5 x/\∃J,TR N J V m/\Step B z G w H' I J/\m.defers=[]
structure Fit (P:Program):Prop where
 name:∀(f:FuncId) (fn:Func),P.funcs[f]?=some fn->fn.body.isSome=true->(fn.name == "runtime.NumGoroutine")=false
 mixed:P.follows .mixedOrders=true
structure Snd (P:Program) (B:Bs) (n:Nat) (ih:zd4->Res):Prop where
 call:∀f args H r H',ih (.call f args H)=.val r H'->∀G w vs,R B H w G->cc G args vs ->
  (∃fn,P.funcs[f]?=some fn/\fn.body.isSome=true)/\Calls P f vs.toArray w (fun e w'=>∃v G',e=.returned v/\VR G' r v/\Step B H.next G w H' w' G')
 aS:∀f N c E H x E' H',ih (.aS f N c E H)=.done x E' H'->∀G w a,R B H w G->TR N G E a->a.defers=[]->Code.wp P c (lO B N H.next G w x E' H') a w
 loop:∀f N c E H x E' H',ih (.aS f N (.loop c) E H)=.done x E' H'->∀G w a,R B H w G->TR N G E a->a.defers=[]->Code.rounds P c (lO B N H.next G w x E' H') n a w
theorem G6{P:Program}{c:Code}{Q Y:Exit->Act->World->Prop}(h:∀e a w,Q e a w->Y e a w):∀{n:Nat}{a:Act}{w:World},Code.rounds P c Q n a w->Code.rounds P c Y n a w
 |0,_,_,hr=>hr
 |n+1,_,_,hr=>by
  rw[rounds_succ]at *;exact uY (fun e a w J=>by
   cases e with
   |normal=>exact G6 h J
   |_=>exact h _ _ _ J) hr
def lO.trans{B:Bs}{G:Gh}{w:World}{H' m:Hp}{x:AX}{V:aq}(Z:Step B z G w H' w' J){e:Exit}{U:World}(h:lO B N H'.next J w' x V m e a U):lO B N z G w x V m e a U:=by
 obtain⟨Y,O,M,j,C⟩:=h;exact⟨Y,O,M,Z.trans j,C⟩
def CY:=@lO.trans
section
variable {P:Program} {B:Bs} {G:Gh} {H H':Hp} {w:World}
def G7(h:TR N G E a){x:Operand}(M:aT E x=some c):VR G c (a.eval x):=by
 cases x with
 |tmp t=>simp only[aT,aQ]at M;subst M;exact h.b8 t
 |const v=>exact xV M
 |global g=>simp[aT]at M
 |func f=>simp only[aT,aQ]at M;subst M;exact .bJ (vs:=[]) rfl aw
def TR.f0(h:TR N G E a)(xs:Array Operand):wD G E a xs:=fun _ _ _ hc=>G7 h hc
theorem Wf{d:Nat}(h:VR G (E.at d) (a.tmps.getD d undef)):(match E.at d with|.bool b=>some b |_=>none)=(match a.tmps[d]? with|some (.bool b)=>some b |_=>none):=by
 rw[lK]at h;cases hd:a.tmps[d]? with
 |none=>
  rw[hd]at h;simp only[Option.getD_none,undef]at h;generalize E.at d=c at h;cases h;rfl
 |some v=>
  rw[hd]at h;simp only[bN]at h;generalize E.at d=c at h;cases h<;>rfl
theorem Wg{j:Nat}(h:∀d,(ops[j]?).bind (·.dst)=some d->VR G (E.at d) (a.tmps.getD d undef)):CC ops.toList E j=yielded ops a.tmps j:=by
 unfold CC yielded;rw[z6];cases hd:(ops[j]?).bind (·.dst)with
 |none=>rfl
 |some d=>exact Wf (h d hd)
theorem LO(h:∀j b d,o.guard=some (j,b)->(ops[j]?).bind (·.dst)=some d->VR G (E.at d) (a.tmps.getD d undef)):jT ops.toList E o=Region.wanted o (yielded ops a.tmps):=by
 unfold jT Region.wanted;cases hg:o.guard with
 |none=>rfl
 |some p=>
  obtain⟨j,b⟩:=p;simp only[];rw[Wg (fun d hd=>h j b d hg hd)]
  grind
def CZ(fit:Fit P){ih:zd4->Res}(hih:Snd P B n ih){f:FuncId}(h:R B H w G)(hE:wD G E a o.op.operands)(Z:eF P B.cC ih f E H o.op=.val c H')
 {K:Act->World->Prop}{Q:Exit->Act->World->Prop} (hK:∀v w' G',VR G' c v->Step B H.next G w H' w' G'->K (a.put o.dst v) w'):o.wp P a w K Q:=by
 have z:∀s:Sem Next,wz P B H G w s c H'->execOp a.eval o=s->o.wp P a w K Q:=fun s hs he=>by
  obtain⟨m,w',G',v,h1,h2,h3,h4⟩:=hs;unfold Oper.wp;rw[he,h1];rcases h2 with rfl|⟨rfl,rfl⟩
  .exact hK v w' G' h3 h4
  .exact hK undef w' G' h3 h4
 unfold eF at Z;split at Z
 .rename_i O U;unfold uQ at Z;split at Z
  .rename_i g hg;split at Z
   .rename_i k cap vs hgv C;have V:wD G E a O.operands:=by rw[U]at hE;exact hE
    have hgr:=V g (by simp[Call.operands,hg]) _ hgv;have j:=CX (G:=G) (a:=a) (fun x hx=>V x (by simp[Call.operands,hg];simp_all)) C;generalize hge:a.eval g=gv at hgr;cases hgr with
    |bJ hl hv=>
     rename_i M;have hall:=j.append (G:=G) ⟨hl,hv⟩;obtain⟨⟨fn,hfn,J⟩,Y⟩:=hih.call _ _ _ _ _ Z G w _ h hall;have hname:=fit.name _ _ hfn J;unfold Oper.wp;have hrun:(execOp a.eval o).run P w=.ok (.enter k ((O.args.toList.map a.eval)++M).toArray) w:=by
      have I:O.args.map a.eval=(O.args.toList.map a.eval).toArray:=by apply CQ;simp
      unfold execOp;rw[U];simp only[fU,resolve,hg,hge,Deferred.ofValue,l7,fV,invoke,callFunc,run_program,hfn,hname];simp only[dM,fG];have hb:fn.body.isNone=false:=by cases hb:fn.body<;>simp_all
      rw[hb];simp[I]
     rw[hrun];show Calls P k _ w _;refine Y.mono fun e w' hr=>?_
     grind
   .simp at Z
  .rename_i b hg;split at Z
   .rename_i vs C;split at Z
    .rename_i v H1 hb;simp only[Res.val.injEq]at Z;obtain⟨rfl,rfl⟩:=Z;have V:wD G E a O.operands:=by rw[U]at hE;exact hE
     have j:=CX (G:=G) (a:=a) (fun x hx=>V x (by simp[Call.operands,hg];simpa using hx)) C;have hs:=We (ty:=o.type) (consts:=O.args.map fun|.const _=>true |_=>false) h j hb;refine z _ hs ?_;have I:O.args.map a.eval=(O.args.toList.map a.eval).toArray:=aX;unfold execOp;rw[U];simp only[resolve,hg,I];rfl
    .simp at Z
   .simp at Z
  .simp at Z
 .rename_i op hne;unfold iF at Z;split at Z
  .rename_i v H1 ho;simp only[Res.val.injEq]at Z;obtain⟨rfl,rfl⟩:=Z;exact z _ (Wd h hE ho) rfl
  .simp at Z
theorem G8(fit:Fit P){n:Nat}{ih:zd4->Res}(Z:Snd P B n ih){f N:Nat}{ops:qQ}:∀(l:qB) {E E':aq}{H:Hp}{x:AX}{a:Act}{w:World}{G:Gh}{Q:Exit->Act->World->Prop},kL P B.cC ih f N ops.toList l E H=.done x E' H' ->
 R B H w G->TR N G E a->a.defers=[]->(∀e z I,lO B N H.next G w x E' H' e z I->Q e z I)->wpList P ops Q l a w
 |[],E,E',H,x,a,w,G,Q,hr,h,ht,hd,hQ=>by
  simp only[kL,Res.done.injEq]at hr;obtain⟨rfl,rfl,rfl⟩:=hr;exact hQ _ _ _ ⟨rfl,G,ht,md h,hd⟩
 |o::l,E,E',H,x,a,w,G,Q,hr,h,ht,hd,hQ=>by
  have hrec:∀E H,(List.rec (motive:=fun _=>aq->Hp->Res) (fun E H=>.done .normal E H)
   (fun o _ C E H=>match jT ops.toList E o with
     |true=>match eF P B.cC ih f E H o.op with
      | .val v H=>lc C H (fN N E o.dst v)
      |_=>.aY
     |false=>lc C H (fN N E o.dst dH)) l E H:Res)=kL P B.cC ih f N ops.toList l E H:=fun _ _=>rfl
  have Y:kL P B.cC ih f N ops.toList (o::l) E H=match jT ops.toList E o with
   |true=>match eF P B.cC ih f E H o.op with
    | .val v H=>lc (kL P B.cC ih f N ops.toList l) H (fN N E o.dst v)
    |_=>.aY
   |false=>lc (kL P B.cC ih f N ops.toList l) H (fN N E o.dst dH):=rfl
  rw[Y]at hr;have V:=LO (G:=G) (E:=E) (a:=a) (ops:=ops) (o:=o) (fun _ _ d _ _=>ht.b8 d);have J:∀U v,(a.put U v).defers=[]:=fun U v=>by cases U<;>exact hd
  cases M:jT ops.toList E o with
  |true=>
   rw[M]at hr V;simp only[]at hr;split at hr
   .rename_i v H1 m;cases hp:fN N E o.dst v with
    |none=>rw[hp]at hr;simp[lc]at hr
    |some E1=>
     rw[hp]at hr;simp only[lc]at hr;unfold wpList;rw[ai V.symm];refine .inl (CZ fit Z h (ht.f0 _) m fun v' I G' hv j=>?_);have O:TR N G' E1 (a.put o.dst v'):=(ht.mono j.ext).put hv hp;exact G8 fit Z l hr j.r O (J _ _) (fun e a w he=>hQ _ _ _ (CY j he))
   .simp at hr
  |false=>
   rw[M]at hr V;simp only[]at hr;cases hp:fN N E o.dst dH with
   |none=>rw[hp]at hr;simp[lc]at hr
   |some E1=>
    rw[hp]at hr;simp only[lc]at hr;unfold wpList;rw[af (by rw[<-V];simp)];exact G8 fit Z l hr h (ht.put (zR G) hp) (J _ _) hQ
end
end Go.Ab
