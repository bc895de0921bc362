/- Parts: AbOps3, AbOps4, AbOps5, AbOps6, AbOp, AbRun, AbDraw1. -/
import Derived.Laws.Tables
import Derived.Lib.Strings
import Derived.Test.YtpbcimfiofmoeaaGreatRCB
set_option linter.unusedSimpArgs false
set_option linter.unusedVariables false
set_option linter.unusedSectionVars false
set_option linter.defProp false
set_option maxHeartbeats 32000000
namespace Go.Ab
set_option maxRecDepth 20000
open Go
theorem Cr{P:Prop}(h:P:=by show sv.data.toList.length=sv.data.size;simp):P:=h
theorem Ct{P:Prop}(h:P:=by rw[<- Nat.add_mul];congr 1;omega):P:=h
theorem zk{P:Prop}(h:P:=by simpa using h1):P:=h
theorem lj{P:Prop}(h:P:=by simpa using hl.symm):P:=h
theorem zl{P:Prop}(h:P:=by simp[Builtin.lenOf]):P:=h
theorem Cu{P:Prop}(h:P:=by rw[hw,j9];exact h2 j v hj):P:=h
theorem pQ{P:Prop}(h:P:=by rw[List.length_take];omega):P:=h
theorem wZ{P:Prop}(h:P:=by simp[Builtin.len_,zfl hd,goInt]):P:=h
theorem fw{P:Prop}(h:P:=by simp[Op.operands]):P:=h
theorem Cv{P:Prop}(h:P:=by simp only[Op.operands,List.mem_toArray,List.mem_map];exact⟨p,hp,rfl⟩):P:=h
theorem Cw{P:Prop}(h:P:=by apply Array.ext';simp):P:=h
theorem zm{P:Prop}(h:P:=by simpa using hx):P:=h
def qJ:=@Nat.sub_self
def qK:=@Option.map_some
def lX:=@congrArg
def dE:=@Nat.zero_le
def nJ:=@Nat.add_mul
def GN:=@Array.toList_setIfInBounds
def tu:=@List.take_add_one
def Cy:=@Decidable.byContradiction
def uV:=@Nat.add_zero
def uW:=@Array.toArray_toList
def rU:=@Nat.succ_mul
def Cz:=@Array.toList_map
def fF:=@List.getElem?_map
def tw:=@List.getElem?_range
def ll:=@List.append_nil
def uX:=@Nat.mul_le_mul_right
def zn:=@List.take_append_drop
def zo:=@List.map_take
def tx:=@Go.IntWalk.i64_in
def kK:=@List.flatten_cons
def rV:=@Nat.zero_mul
def CA:=@Go.run_firstCells_some
def lw:=@List.mem_of_getElem?
def gD:=@List.drop_zero
def w1:=@Nat.sub_zero
def CB:=@List.take_length
def cJ:=@Bool.and_eq_true
def w6:=@Nat.le_of_ble_eq_true
def dS:=@Bool.false_eq_true
def zp:=@List.drop_append_of_le_length
def jt:=@decide_eq_true_eq
def cj:=@Option.getD_some
def zq:=@List.getElem?_set
def tz:=@Array.getElem?_toList
def eD:=@List.cons.injEq
def lY:=@Nat.mul_one
def rW:=@Go.Code.wp_mono
def eF:=@List.map_cons
def ju:=And.intro @qK.{0,0} @aQ.{0}
end Go.Ab
namespace Go.Ab
set_option maxRecDepth 20000
open Go Go.RowKit
def tA(G:Gh):Option AV->Option Value->Prop
 |none,none=>True
 |some c,some v=>VR G c v
 |_,_=>False
section
variable {P:Program} {B:Bs} {G:Gh} {H H':Hp} {w:World}
theorem zr{c:AV}{v:Value}{k y:Nat}(code:BoundsCode)(h:VR G c v)(hb:zfL 0 (some c)=some k)(hk:k<=y):(Instr.sliceBound v y code).run P w=.ok k w:=by
 unfold zfL at hb;split at hb
 .simp at *
 .rename_i kk n e;simp only[aQ]at hb e;subst hb;subst e;cases h;simp[Instr.sliceBound,asIntOf,hk]
 .simp at hb
theorem Ph{d k:Nat}{c:AV}(h:zfL d (some c)=some k):zfL 0 (some c)=some k:=by
 unfold zfL at *;split at h<;>simp_all
theorem CC{lo hi:Option AV}{lov hiv:Option Value}{l h len cap:Nat}(hl:tA G lo lov)(hh:tA G hi hiv)(bl:zfL 0 lo=some l)(bh:zfL len hi=some h)(h1:l<=h)(h2:h<=len)(h3:len<=cap)(isS:Bool):
 (Instr.sliceBounds isS len cap lov hiv none).run P w=.ok (l,h,cap) w:=by
 cases hi with
 |none=>
  cases hiv with
  |some v=>exact hh.elim
  |none=>
   simp only[zfL,aQ]at bh;subst bh;cases lo with
   |none=>
    cases lov with
    |some v=>exact hl.elim
    |none=>
     simp only[zfL,aQ]at bl;subst bl;simp[Instr.sliceBounds]
   |some c=>
    cases lov with
    |none=>exact hl.elim
    |some v=>simp[Instr.sliceBounds,zr _ hl bl h1]
 |some ch=>
  cases hiv with
  |none=>exact hh.elim
  |some vh=>
   have bh':=Ph bh;cases lo with
   |none=>
    cases lov with
    |some v=>exact hl.elim
    |none=>
     simp only[zfL,aQ]at bl;subst bl;simp[Instr.sliceBounds,zr _ hh bh' (show h<=cap by omega)]
   |some c=>
    cases lov with
    |none=>exact hl.elim
    |some v=>simp[Instr.sliceBounds,zr _ hl bl h1,zr _ hh bh' (show h<=cap by omega)]
theorem Pi{t:TypeId}{x c:AV}{xv:Value}{lo hi:Option AV}{lov hiv:Option Value}(hx:VR G x xv)(hl:tA G lo lov)(hh:tA G hi hiv)(h:zfW P t x lo hi=some c):
 ∃v,(Instr.sliceAt t xv lov hiv none).run P w=.ok v w/\VR G c v:=by
 unfold zfW at h;split at h
 .rename_i s hd;split at h
  .rename_i l hh' bl bh;split at h
   .rename_i hc;simp only[aQ]at h;subst h;cases hx with
    |str sv _ hs=>
     subst hs;have hb:=CC (P:=P) (w:=w) (cap:=sv.size) hl hh bl bh hc.1 hc.2 (by show sv.data.toList.length<=sv.data.size;simp) false;have hsz:sv.data.toList.length=sv.size:=Cr;rw[hsz]at hb;refine⟨.string (sv.extract l hh'),?_,.str _ _ (Lib.extract_data _ _ _)⟩;simp only[Instr.sliceAt,fk,zfl hd,fu,Instr.slice];simp[hb]
   .simp at h
  .simp at h
 .rename_i e y hd;split at h
  .rename_i z hz;have hrun:∀(a:Option Addr) (len cap l h':Nat),xv=.slice a len cap->zfL 0 lo=some l->zfL len hi=some h'->l<=h'->h'<=len->len<=cap ->
    (Instr.sliceAt t xv lov hiv none).run P w=.ok (.slice (if cap=l then a else a.map (·.add (l*z))) (h'-l) (cap-l)) w:=fun a len cap l h' e1 bl bh h1 h2 h3=>by
    subst e1;simp only[Instr.sliceAt,fk,zfl hd,fu,Instr.slice];simp[CC hl hh bl bh h1 h2 h3,jr hz]
   split at h
   .rename_i r off len z';split at h
    .rename_i l h' bl bh;split at h
     .rename_i hc;obtain⟨h1,h2,rfl⟩:=hc;cases hx with
      |sl hr hlc hx'=>
       rename_i b o x cap;have:=hrun _ len cap l h' rfl bl bh h1 h2 hlc;split at h
       .rename_i e1;simp only[aQ]at h;subst h;subst e1;rw[qJ]at this;exact⟨_,this,.lst0 _ _⟩
       .rename_i hne;simp only[aQ]at h;subst h;rw[ah ac]at this;refine⟨_,this,?_⟩;simp only[qK,j9];rw[jJ];refine .sl hr ac ?_;have e3:(cap-l)*z'+l*z'=cap*z':=Ct;omega
     .simp at h
    .simp at h
   .rename_i xs;split at h
    .rename_i l h' bl bh;split at h
     .rename_i hc;obtain⟨h1,h2⟩:=hc;split at h
      .rename_i he;simp only[aQ]at h;subst h;have hlen:h'-l=0:=by
        have:=lX List.length he;simp only[oK,mC,fV]at this;omega
       cases hx with
       |lst vs hzz hF hv hcap=>
        have:=hrun _ _ _ l h' rfl bl bh h1 h2 hcap;rw[hlen]at this;exact⟨_,this,.lst0 _ _⟩
       |lst0 a cap=>
        have:=hrun _ _ _ l h' rfl bl bh h1 h2 (dE cap);rw[hlen]at this;exact⟨_,this,.lst0 _ _⟩
      .rename_i row rows he;split at h
       .rename_i hrl;simp only[aQ]at h;subst h;have hpos:0<h'-l:=by
         have:=lX List.length he;simp only[oK,mC,fj]at this;omega
        cases hx with
        |lst0 a cap=>simp at h2;omega
        |lst vs hzz hF hv hcap=>
         rename_i b o cap z';have hrun':=hrun _ _ _ l h' rfl bl bh h1 h2 hcap;rw[ah ac]at hrun';have hget:∀i:Nat,(row::rows)[i]?=if i<h'-l then xs[l+i]? else none:=fun i=>by
          rw[<-he,pM,rS]
         have hz':z'=z:=by
          have:=hget 0;rw[aE hpos]at this;rw[<-hzz (l+0) row (by rw[<-this];rfl)];exact hrl
         subst hz';have hlen:(row::rows).length=h'-l:=by
          rw[<-he];simp only[oK,mC];omega
         refine⟨_,hrun',?_⟩;simp only[qK,j9];rw[<-hlen];refine .lst (z:=z') (fun i j=>vs (l+i) j) (fun i rw' hi=>?_) (fun i j hi hj=>?_) (fun i j rw' d hi hj=>?_) (by rw[hlen];omega)
         .rw[hget i]at hi;split at hi
          .exact hzz _ _ hi
          .simp at hi
         .have:=hF (l+i) j (by rw[hlen]at hi;omega) hj;rw[<-this]
          congr 1
          rw[nJ];omega
         .rw[hget i]at hi;split at hi
          .exact hv _ _ _ _ hi hj
          .simp at hi
       .simp at h
     .simp at h
    .simp at h
   .split at h
    .rename_i bl bh;simp only[aQ]at h;subst h;cases hx;have:=hrun none 0 0 0 0 rfl bl bh (aM _) (aM _) (aM _);exact⟨_,this,.nilS⟩
    .simp at h
   .simp at h
  .simp at h
 .simp at h
theorem cr.splice{cs new:List AV}{vs nv:List Value}(h:cr G cs vs)(hn:cr G new nv)(off:Nat):cr G (Ab.splice cs off new) (vs.take off++nv++vs.drop (off+nv.length)):=by
 unfold Ab.splice;rw[hn.1];exact((h.take off).append hn).append (h.drop _)
theorem GO(off:Nat):∀(nv:List Value) (k:Nat) (cells:Array Value),off+k+nv.length<=cells.size ->
 ((nv.zipIdx k).foldl (fun cs (c,j)=>cs.setIfInBounds (off+j) c) cells).toList=cells.toList.take (off+k)++nv++cells.toList.drop (off+k+nv.length)
 |[],k,cells,_=>by simp
 |v::nv,k,cells,h=>by
  simp only[fj]at h;rw[List.zipIdx_cons,List.foldl_cons,GO off nv (k+1) _ cT];simp only[GN,fj];have hp:off+k<cells.toList.length:=cT;have h1:(cells.toList.set (off+k) v).take (off+(k+1))=cells.toList.take (off+k)++[v]:=by
   rw[<-jJ,tu,List.take_set_of_le (aM _),List.getElem?_set_self hp];rfl
  rw[h1,List.drop_set_of_lt ac,show off+(k+1)+nv.length=off+k+(nv.length+1) by omega];simp
theorem zt{place:Nat->Option (Nat×Nat)}:∀{ps:List (Nat×AV)}{pv:List (Nat×Value)}{cs out:List AV}{vs:List Value},ps.length=pv.length ->
 (∀(i:Nat) p q,ps[i]?=some p->pv[i]?=some q->p.1=q.1/\VR G p.2 q.2)->cr G cs vs->pJ place cs ps=some out ->
 ∃outv,Instr.fill place vs.toArray pv=some outv.toArray/\cr G out outv
 |[],[],cs,out,vs,_,_,hv,h=>by
  simp only[pJ,aQ]at h;subst h;exact⟨vs,rfl,hv⟩
 |[],q::pv,_,_,_,hl,_,_,_=>by simp at hl
 |p::ps,[],_,_,_,hl,_,_,_=>by simp at hl
 |(i,c)::ps,(i',v)::pv,cs,out,vs,hl,hp,hv,h=>by
  obtain⟨rfl,hcv⟩:=hp 0 (i,c) (i',v) rfl rfl;simp only[]at hcv;simp only[pJ]at h;split at h
  .simp at h
  .rename_i off size hpl;split at h
   .simp at h
   .rename_i hcond;have hcl:=hcv.cells;have hlc:v.cells.size=c.cells.length:=by rw[hcl.1];simp
    have hcond':v.cells.size=size/\off+v.cells.size<=vs.length:=by
     rw[hlc,<-hv.1];constructor
     .apply Cy;intro hn;exact hcond (.inl hn)
     .apply Cy;intro hn;exact hcond (.inr ac)
    obtain⟨outv,h1,h2⟩:=zt (ps:=ps) (pv:=pv) (cs:=Ab.splice cs off c.cells) (out:=out) (vs:=vs.take off++v.cells.toList++vs.drop (off+v.cells.toList.length))
     (by simpa using hl) (fun j p q hj hq=>hp (j+1) p q za (by simpa using hq)) (hv.splice hcl off) h
    refine⟨outv,?_,h2⟩;simp only[Instr.fill,hpl];rw[ah cT];rw[<-h1]
    congr 1
    apply nI;have hf:=GO off v.cells.toList 0 vs.toArray cT;simp only[uV]at hf;rw[List.toList_toArray,<-hf];rw[<-Array.foldl_toList,Array.toList_zipIdx]
theorem zu{E:aG}{a:Act}:∀{ps:List (Nat×Operand)}{out:List (Nat×AV)},(∀p∈ps,∀c,zd0 E p.2=some c->VR G c (a.eval p.2))->zgd E ps=some out ->
 out.length=(ps.map fun x=>(x.1,a.eval x.2)).length/\∀(i:Nat) p q,out[i]?=some p->(ps.map fun x=>(x.1,a.eval x.2))[i]?=some q->p.1=q.1/\VR G p.2 q.2
 |[],out,_,h=>by
  simp only[zgd,aQ]at h;subst h;exact⟨rfl,aK⟩
 |(i,x)::ps,out,hE,h=>by
  simp only[zgd]at h;split at h
  .rename_i v vs hv hvs;simp only[aQ]at h;subst h;obtain⟨h1,h2⟩:=zu (ps:=ps) (out:=vs) (fun p hp=>hE p (by simp[hp])) hvs;refine⟨zk,fun j p q hj hq=>?_⟩;cases j with
   |zero=>
    simp at hj hq;subst hj hq;exact⟨rfl,hE (i,x) aK v hv⟩
   |succ j=>exact h2 j p q za (by simpa using hq)
  .simp at h
theorem Pj{t:TypeId}{ps:List (Nat×AV)}{pv:List (Nat×Value)}{c:AV}(hl:ps.length=pv.length)(hp:∀(i:Nat) p q,ps[i]?=some p->pv[i]?=some q->p.1=q.1/\VR G p.2 q.2)(h:zfy P t ps=some c):
 ∃v,(Instr.build t pv.toArray).run P w=.ok v w/\VR G c v:=by
 unfold zfy at h;split at h
 .rename_i z fields hz hd;split at h
  .rename_i places hpl;split at h
   .rename_i out hf;simp only[aQ]at h;subst h;obtain⟨it,zv,zc,hit,hzv,hzc,rfl⟩:=Cn hz;have hzr:=(uS (G:=G) hzc).cells;obtain⟨outv,h1,h2⟩:=zt hl hp hzr hf;refine⟨.agg outv.toArray,run_build w t _ _ ?_,.agg h2.1 h2.2⟩;simp only[Program.built,hit,hd,hzv];unfold Gt at hpl;rw[hpl];simp only[uW]at h1;simpa using h1
   .simp at h
  .simp at h
 .rename_i z n e hz hd;split at h
  .rename_i s hs;split at h
   .rename_i out hf;simp only[aQ]at h;subst h;obtain⟨it,zv,zc,hit,hzv,hzc,rfl⟩:=Cn hz;have hzr:=(uS (G:=G) hzc).cells;obtain⟨ie,hie,hies⟩:=GE hs;obtain⟨outv,h1,h2⟩:=zt hl hp hzr hf;refine⟨.agg outv.toArray,run_build w t _ _ ?_,.agg h2.1 h2.2⟩;simp only[Program.built,hit,hd,hzv,hie,hies];simp only[uW]at h1;simpa using h1
   .simp at h
  .simp at h
 .simp at h
theorem GP(z:List AV):∀(n j:Nat),j<n*z.length->(lU z n)[j]?=z[j%z.length]?
 |0,j,h=>by simp at h
 |n+1,j,h=>by
  simp only[lU];by_cases hj:j<z.length
  .rw[kG hj,Nat.mod_eq_of_lt hj]
  .have h':j<n*z.length+z.length:=by simpa [rU]using h
   rw[mB ac,GP z n (j-z.length) ac]
   congr 1
   exact(Nat.mod_eq_sub_mod ac).symm
theorem zw(z:List AV):∀n,(lU z n).length=n*z.length
 |0=>by simp[lU]
 |n+1=>by simp[lU,zw z n,nJ];omega
theorem GQ{z:List AV}{zv:Array Value}(hz:cr G z zv.toList)(n:Nat):cr G (lU z n) (((Array.range (n*z.length)).map (zv[·% zv.size]!))).toList:=by
 have hl:=hz.1;refine⟨by simp[zw],fun j c v hc hv=>?_⟩;have hj:j<n*z.length:=by
  have:=(eS.1 hc).1;rw[zw]at this;exact this
 rw[GP z n j hj]at hc;simp only[Cz,Array.toList_range,fF,tw hj,ju]at hv;have hpos:0<z.length:=by
  rcases Nat.eq_zero_or_pos z.length with e|e
  .rw[e]at hj;omega
  .exact e
 have hm:j%z.length<z.length:=Nat.mod_lt _ hpos;have hzs:zv.size=z.length:=lj;refine hz.2 (j%z.length) c v hc ?_;rw[hzs]at hv;rw[<-hv];simp[hzs,hm]
theorem GR{place:Nat->Option (Nat×Nat)}:∀{ps:List (Nat×AV)}{cs out:List AV},pJ place cs ps=some out->out.length=cs.length
 |[],cs,out,h=>by simp only[pJ,aQ]at h;rw[h]
 |(i,c)::ps,cs,out,h=>by
  simp only[pJ]at h;split at h
  .simp at h
  .split at h
   .simp at h
   .rename_i hc;rw[GR h,OV];apply Cy;intro hn;exact hc (.inr ac)
theorem GS{t:TypeId}{len:Nat}{ps:List (Nat×AV)}{pv:List (Nat×Value)}{c:AV}(hl:ps.length=pv.length)(hp:∀(i:Nat) p q,ps[i]?=some p->pv[i]?=some q->p.1=q.1/\VR G p.2 q.2)
 (hb:zfn P H t len ps=some (c,H')):oM P G w (Instr.buildSlice t len pv.toArray) id c H H':=by
 unfold zfn at hb;split at hb
 .rename_i e hd;split at hb
  .rename_i s z hs hz;split at hb
   .rename_i hc;obtain⟨h24,hzl⟩:=hc;split at hb
    .rename_i cs hf;simp only[di]at hb;obtain⟨rfl,rfl⟩:=hb;obtain⟨zv,hzr,hzv⟩:=wY hz;have hrep:=GQ (hzv G) len;obtain⟨outv,h1,h2⟩:=zt hl hp hrep hf;have hlen:outv.length=len*s:=by
      rw[<-h2.1,GR hf,zw,hzl]
     refine⟨.cells cs 0 true,.cells (outv++[]).toArray e,outv.length+0,.slice (some ⟨w.heap.size,0,none⟩) len len,rfl,?_,.cells cs outv [] e h2,fun G' hG=>.sl hG (aM _) ac⟩;rw[ll];show _=Result.ok (Value.slice (some ⟨w.heap.size,0,none⟩) len len) _
     .have h24':¬(len*s > 2^24):=by omega
      rw[hzl]at h1;by_cases h0:len*s=0
      .rw[h0]at h1;simp at h1;simp[Instr.buildSlice,zfl hd,jr hs,h0,newRow];rw[show Array.map (fun _:Nat=>(default:Value)) (Array.range 0)=#[]from by simp,h1];rfl
      .simp only[uW]at h1;simp[Instr.buildSlice,zfl hd,jr hs,h24',h0,hzr,h1,newRow]
    .simp at hb
   .simp at hb
  .simp at hb
 .simp at hb
theorem GT{t:TypeId}{l c r:AV}{lv cv:Value}(hl:VR G l lv)(hc:VR G c cv)(hm:zf9 P H t l c=some (r,H')):
 oM P G w (Instr.makeSlice t lv cv) id r H H':=by
 unfold zf9 at hm;split at hm
 .rename_i e k1 l k2 c hd;cases hl;cases hc;split at hm
  .rename_i s b z hs hb hz;split at hm
   .rename_i hcond;obtain⟨h1,h2,h3,h4⟩:=hcond;simp only[di]at hm;obtain⟨rfl,rfl⟩:=hm;obtain⟨zv,hzr,hzv⟩:=wY hz;obtain⟨i,hi,hib⟩:∃i,P.info? e=some i/\i.bytes=b:=by simpa [zfg,mD]using hb
    have hm:zfw=70368744177664:=rfl;rw[hm]at h2 h3;have hrep:=GQ (hzv G) l;have hrow:((Array.range (c*s)).map (zv.cells[·% zv.cells.size]!)).toList=((Array.range (l*s)).map (zv.cells[·% zv.cells.size]!)).toList++(((Array.range (c*s)).map (zv.cells[·% zv.cells.size]!)).toList.drop (l*s)):=by
     have hle:l*s<=c*s:=uX _ h1
     conv=>lhs;rw[<-zn (l*s) ((Array.range (c*s)).map (zv.cells[·% zv.cells.size]!)).toList]
     congr 1
     simp only[Cz,Array.toList_range,<-zo];rw[List.take_range,Nat.min_eq_left hle]
    rw[h4]at hrep;have hmade:Made G (.cells (lU z l) 0 true) _ _:=.cells _ _ (((Array.range (c*s)).map (zv.cells[·% zv.cells.size]!)).toList.drop (l*s)) e hrep;rw[<-hrow,uW]at hmade;refine⟨_,_,_,.slice (some ⟨w.heap.size,0,none⟩) l c,rfl,?_,hmade,fun G' hG=>.sl hG h1 ?_⟩
    .show _=Result.ok (Value.slice (some ⟨w.heap.size,0,none⟩) l c) _;have zfp:IntKind.i64.wrap (l:Int)=l:=tx _ ac;have w2:IntKind.i64.wrap (c:Int)=c:=tx _ ac;have h2':¬((b:Int)*c > 2^48):=by
      have:(b:Int)*c=((c*b:Nat):Int):=by rw[Nat.mul_comm];simp
      rw[this];omega
     have h5:¬((281474976710656:Int)<(b:Int)*c):=by simpa using h2'
     have h6:¬(c<l):=ac;have p1:¬((c:Int)<0):=ac;have p2:¬((l:Int)<0):=ac;simp only[Instr.makeSlice,fk,zfl hd,fu,asInt,asIntOf];by_cases h0:c*s=0
     .simp[uT hi,hib,zfp,w2,h5,h6,p1,p2,jr hs,h0,newRow];rw[show ∀f g:Nat->Value,Array.map f (Array.range 0)=Array.map g (Array.range 0)from fun f g=>aK]
     .simp[uT hi,hib,zfp,w2,h5,h6,p1,p2,jr hs,h0,hzr,newRow]
    .have hle:l*s<=c*s:=uX _ h1;simp;omega
   .simp at hm
  .simp at hm
 .simp at hm
end
section
variable {P:Program} {B:Bs} {G:Gh} {H H':Hp} {w:World}
theorem cr.oneCell{cs:List AV}{vs:List Value}(h:cr G cs vs)(ho:cs.all AV.one=true):∀v∈vs,v.oneCell'=true:=fun v hv=>by
 obtain⟨i,hi,rfl⟩:=Ck hv;have hi':i<cs.length:=by rw[h.1];exact hi
 rw[(h.2 i _ _ (br hi') (br hi)).oneCell];exact jL.1 ho _ (dX hi')
theorem Pk{xs:List (List AV)}{s:Nat}(hs:∀(i:Nat) (row:List AV),xs[i]?=some row->row.length=s):xs.flatten.length=xs.length*s /\
 ∀(i j:Nat) (c:AV),j<s->xs.flatten[i*s+j]?=some c->∃row,xs[i]?=some row/\row[j]?=some c:=by
 induction xs with
 |nil=>exact⟨aK,aK⟩
 |cons row xs ih=>
  have hr:=hs 0 row rfl;obtain⟨h1,h2⟩:=ih (fun i r hi=>hs (i+1) r (by simpa using hi));refine⟨by simp[h1,hr,rU];omega,fun i j c hj hc=>?_⟩;rw[kK]at hc;cases i with
  |zero=>
   rw[rV,bT,kG ac]at hc;exact⟨row,rfl,hc⟩
  |succ i=>
   rw[mB (by rw[hr,rU];omega)]at hc;rw[hr,show(i+1)*s+j-s=i*s+j by rw[rU];omega]at hc;obtain⟨r,g1,g2⟩:=h2 i j c hj hc;exact⟨r,by simpa using g1,g2⟩
theorem Pm{k n s:Nat}(h:k<n*s):k/s<n/\k%s<s/\k=k/s*s+k%s:=by
 have hs:0<s:=by
  rcases Nat.eq_zero_or_pos s with e|e
  .subst e;omega
  .exact e
 refine⟨(Nat.div_lt_iff_lt_mul hs).2 h,Nat.mod_lt _ hs,?_⟩;have:=Nat.div_add_mod k s;rw[Nat.mul_comm]at this;omega
theorem Pn(h:R B H w G){t:TypeId}{x c:AV}{xv:Value}{lo hi:Option AV}{lov hiv:Option Value}(hx:VR G x xv)(hl:tA G lo lov)(hh:tA G hi hiv)(hs:my P H t x lo hi=some c):
 ∃v,(Instr.sliceAt t xv lov hiv none).run P w=.ok v w/\VR G c v:=by
 unfold my at hs;split at hs
 .rename_i r off;split at hs
  .rename_i n e cs imm tip hd hg;split at hs
   .rename_i z l h' hz bl bh;split at hs
    .rename_i hc;obtain⟨h1,h2,h3⟩:=hc;cases hx with
     |ptr hr=>
      rename_i b o x;have hf:=h.fits _ _ _ _ _ _ _ hr hg;have hb:=CC (P:=P) (w:=w) (cap:=n) hl hh bl bh h1 h2 (aM _) false;have hrun:(Instr.sliceAt t (.pointer (some ⟨b,o+off,none⟩)) lov hiv none).run P w=.ok (.slice (some (if n=l then ⟨b,o+off,none⟩else ⟨b,o+off+l*z,none⟩)) (h'-l) (n-l)) w:=by
       simp only[Instr.sliceAt,fk,zfl hd,fu];simp[Instr.sureAddr,hb,jr hz,j9]
      split at hs
      .rename_i e1;simp only[aQ]at hs;subst hs;subst e1;rw[qJ]at hrun;exact⟨_,hrun,.lst0 _ _⟩
      .rename_i hne;simp only[aQ]at hs;subst hs;rw[ah ac]at hrun;refine⟨_,hrun,?_⟩;rw[jJ];refine .sl hr ac ?_;have e3:(n-l)*z+l*z=n*z:=Ct;omega
    .simp at hs
   .simp at hs
  .simp at hs
 .exact Pi hx hl hh hs
theorem CD(h:R B H w G){s n:Nat}{x:AV}{xv:Value}{l:List AV}(hx:VR G x xv)(hs:zfz H s x=some (n,l)):
 ∃nv,cr G l nv/\nv.length=n*s/\(∀w',(Builtin.lenOf xv).run P w'=.ok n w')/\(∀w',(∀a,w'.cell? a=w.cell? a)->(Builtin.firstCells s n xv).run P w'=.ok nv.toArray w'):=by
 unfold zfz at hs;split at hs
 .rename_i r off len z;cases hx with
  |sl hr hl hc=>
   rename_i b o x cap;split at hs
   .rename_i cs imm tip hg;simp only[]at hs;split at hs
    .rename_i hlen;simp only[di]at hs;obtain⟨rfl,rfl⟩:=hs;obtain⟨vs,h1,h2⟩:=(((h.cells _ _ _ _ _ _ _ hr hg).drop off).take (len*s)).list;have hvl:vs.length=len*s:=by rw[<-h1.1];exact hlen
     refine⟨vs,h1,hvl,fun w'=>zl,fun w' hw=>?_⟩;exact CA w' s len _ len cap vs hvl (fun j v hj=>Cu)
    .simp at hs
   .simp at hs
 .rename_i xs;split at hs
  .rename_i hall;simp only[di]at hs;obtain⟨rfl,rfl⟩:=hs;have hrow:∀(i:Nat) (row:List AV),xs[i]?=some row->row.length=s:=fun i row hi=>by
    have:=jL.1 hall row (lw hi);simpa using this
   obtain⟨hfl,hfg⟩:=Pk hrow;cases hx with
   |lst0 a cap=>
    refine⟨[],j8 G,aK,fun w'=>zl,fun w' hw=>?_⟩;cases a with
    |none=>simp[Builtin.firstCells]
    |some a=>
     simp[Builtin.firstCells];rfl
   |lst vs hz hF hv hcap=>
    rename_i b o cap z;have hzs:xs.length=0\/z=s:=by
     cases xs with
     |nil=>exact .inl rfl
     |cons row xs=>exact .inr (by rw[<-hz 0 row rfl,hrow 0 row rfl])
    have hh:iX G w b o xs.flatten:=fun k c hk=>by
     have hklt:k<xs.length*s:=by rw[<-hfl];exact(eS.1 hk).1
     obtain⟨d1,d2,d3⟩:=Pm hklt;have hz':z=s:=by
      rcases hzs with e|e
      .rw[e]at hklt;omega
      .exact e
     subst hz';obtain⟨row,g1,g2⟩:=hfg (k/z) (k%z) c d2 (by rw[<-d3];exact hk);refine⟨vs (k/z) (k%z),?_,hv _ _ row c g1 g2⟩;have:=h.frz _ _ _ (hF (k/z) (k%z) d1 d2);rw[show o+k=o+k/z*z+k%z by omega];exact this
    obtain⟨nv,h1,h2⟩:=hh.list;have hvl:nv.length=xs.length*s:=by rw[<-h1.1];exact hfl
    refine⟨nv,h1,hvl,fun w'=>zl,fun w' hw=>?_⟩;exact CA w' s xs.length _ xs.length cap nv hvl (fun j v hj=>Cu)
  .simp at hs
 .simp only[di]at hs;obtain⟨rfl,rfl⟩:=hs;cases hx;exact⟨[],j8 G,aK,fun w'=>zl,fun w' hw=>by simp[Builtin.firstCells]⟩
 .rename_i b;split at hs
  .rename_i e;subst e;simp only[di]at hs;obtain⟨rfl,rfl⟩:=hs;cases hx with
   |str sv _ hb=>
    subst hb;have hsz:sv.data.toList.length=sv.size:=Cr;refine⟨sv.data.toList.map fun x=>.int .u8 x.toNat,⟨aK,fun i c v hc hv=>?_⟩,aK,fun w'=>by simp[Builtin.lenOf,hsz],fun w' hw=>?_⟩
    .rw[fF]at hc hv;cases hi:sv.data.toList[i]? with
     |none=>rw[hi]at hc;simp at hc
     |some u=>
      rw[hi]at hc hv;simp only[ju]at hc hv;subst hc hv;exact .int _ _
    .simp only[Builtin.firstCells,jK]
     congr 1
     apply nI;have:(sv.extract 0 sv.data.toList.length).data.toList=sv.data.toList:=by
      rw[Lib.extract_data,gD,w1,CB]
     simp only[Cz,this]
  .simp at hs
 .simp at hs
theorem GU(z:Array Value)(n:Nat):(Builtin.zeroCells z n).toList.length=n*z.size:=by simp[Builtin.zeroCells]
theorem GV{t u e ty:TypeId}{du:TypeDesc}(hd:P.underlying t=some (.slice e))(hu:P.underlying u=some du)(hni:∀k,du≠.int k){s:Nat}(hs:zer P e=some s)
 {a:Option Addr}{len cap n:Nat} (hlc:len+n<=cap) {xv:Value}{nv:List Value} (hl:(Builtin.lenOf xv).run P w=.ok n w) (hf:(Builtin.firstCells s n xv).run P w=.ok nv.toArray w) :
 (Builtin.append_ #[t,u] ty #[.slice a len cap,xv]).run P w=(match a with
   |some a=>((storeCells (a.add (len*s)) nv).run P w).andThen fun _ w'=>.ok (.slice (some a) (len+n) cap) w'
   |none=>.ok (.slice none (len+n) cap) w):=by
 have hz:(match du with|.int _=>true |_=>false)=false:=by cases du<;>first|rfl|exact(hni _ rfl).elim
 simp only[Builtin.append_];simp[zfl hd,zfl hu,jr hs,hl];rw[aE hlc,hf];cases a<;>simp
theorem GW{t u e ty:TypeId}{du:TypeDesc}(hd:P.underlying t=some (.slice e))(hu:P.underlying u=some du)(hni:∀k,du≠.int k){s:Nat}(hs:zer P e=some s){b:Nat}(hb:zfg P e=some b)
 {zv:Value} (hz:∀w,(zeroValue e).run P w=.ok zv w)
 {a:Option Addr}{len cap n:Nat} (hlc:cap<len+n) (hroom:(len+n)*b<=zfw) (hroom':len+n<=zfw) {xv:Value}{ov nv:List Value} (hl:(Builtin.lenOf xv).run P w=.ok n w) (hf:(Builtin.firstCells s n xv).run P w.drew=.ok nv.toArray w.drew)
 (ho:(Builtin.firstCells s len (.slice a len cap)).run P w.drew=.ok ov.toArray w.drew) :
 (Builtin.append_ #[t,u] ty #[.slice a len cap,xv]).run P w=.ok (.slice (some ⟨w.heap.size,0,none⟩) (len+n) (grownCap w (len+n) cap e))
   (w.drew.alloc (.cells (ov++nv++(Builtin.zeroCells zv.cells (grownCap w (len+n) cap e-(len+n))).toList).toArray e)):=by
 have hz':(match du with|.int _=>true |_=>false)=false:=by cases du<;>first|rfl|exact(hni _ rfl).elim
 obtain⟨i,hi,hib⟩:∃i,P.info? e=some i/\i.bytes=b:=by simpa [zfg,mD]using hb
 have hm:zfw=70368744177664:=rfl;rw[hm]at hroom hroom';have h48:¬(281474976710656<Builtin.nextslicecap (len+n) cap*b):=by
  have:=growslice_fits hlc (bytes:=b) ac;omega
 have h63:¬(9223372036854775807<((len:Int)+(n:Int))):=ac;have h1:¬(len+n<=cap):=ac;simp only[Builtin.append_];simp[zfl hd,zfl hu,jr hs,hl,h1,uT hi,hib,h63,h48,Question.forced,ho,hf,hz,newRow,grownCap]
 congr 2
 apply nI;simp
theorem R.heap{w':World}(h:R B H w G)(e:w'.heap=w.heap):R B H w' G:=by
 have k:∀a,w'.cell? a=w.cell? a:=fun a=>by simp[World.cell?,e]
 have kf:∀a,w'.frozen? a=w.frozen? a:=fun a=>by simp[World.frozen?,e]
 exact{
  base:=by rw[e];exact h.base
  dom:=h.dom
  lt:=fun r b o x hr=>by rw[e];exact h.lt r b o x hr
  cells:=fun r b o x cs imm tip hr hc j c hj=>by rw[k];exact h.cells r b o x cs imm tip hr hc j c hj
  imm:=h.imm
  ext:=h.ext
  fits:=h.fits
  room:=fun r b o x cs imm tip hr hc j hj hjl=>by rw[k,kf];exact h.room r b o x cs imm tip hr hc j hj hjl
  apart:=h.apart
  map:=fun r b o x es hr hc=>by rw[e];exact h.map r b o x es hr hc
  mapApart:=h.mapApart
  frz:=fun b o v hf=>by rw[k];exact h.frz b o v hf
  val:=h.val
  sym:=h.sym}
theorem Step.of_drew{nx:Nat}{w':World}{G':Gh}(h:Step B nx G w.drew H' w' G'):Step B nx G w H' w' G':=
 ⟨h.r,h.ext,⟨h.fr.os,h.fr.tape,h.fr.output,h.fr.size,h.fr.block⟩,h.new,h.low,h.mono,h.icy⟩
theorem iX.first{b o off s len:Nat}{cs:List AV}(hh:iX G w b o cs)(hl:off+len*s=cs.length){cap:Nat}:
 ∃ov,cr G (cs.drop off) ov/\ov.length=len*s/\∀w',(∀a,w'.cell? a=w.cell? a)->(Builtin.firstCells s len (.slice (some ⟨b,o+off,none⟩) len cap)).run P w'=.ok ov.toArray w':=by
 obtain⟨vs,h1,h2⟩:=(hh.drop off).list;have hvl:vs.length=len*s:=by rw[<-h1.1,mC];omega
 exact⟨vs,h1,hvl,fun w' hw=>CA w' s len _ len cap vs hvl (fun j v hj=>Cu)⟩
theorem GX{u:TypeId}(h:zfT P u=true):∃d,P.underlying u=some d/\∀k,d≠.int k:=by
 unfold zfT at h;split at h
 .rename_i e hd;exact⟨_,hd,aK⟩
 .rename_i hd;exact⟨_,hd,aK⟩
 .simp at h
theorem Po(h:R B H w G)(keep:Bool)(s:Nat)(sv:AV):Step B H.next G w (gW keep H s sv) w G:=by
 unfold gW;split
 .rename_i r off len z;split
  .rename_i cs imm hg;split
   .rename_i hc;simp only[cJ]at hc;have h1:off+len*s<cs.length:=by simpa [iW]using hc.1.2
    have h2:=w6 hc.2;generalize off+len*s=m at h1 h2;have hgs:∀r' b',(H.set r (.cells (cs.take m) imm true)).get r'=some b'->(r'=r/\b'=.cells (cs.take m) imm true)\/(r'≠r/\H.get r'=some b'):=fun r' b' he=>by
     rw[bz]at he;split at he
     .rename_i e;simp only[aQ]at he;exact .inl ⟨e,he.symm⟩
     .rename_i e;exact .inr ⟨e,he⟩
    have hsub:∀r' cs' imm' tip',(H.set r (.cells (cs.take m) imm true)).get r'=some (.cells cs' imm' tip')->∃cs0,H.get r'=some (.cells cs0 imm' tip')/\(∀(j:Nat) c,cs'[j]?=some c->cs0[j]?=some c)/\cs'.length<=cs0.length/\(∀x,zfu x cs' tip'=zfu x cs0 tip'):=fun r' cs' imm' tip' he=>by
     rcases hgs r' _ he with⟨rfl,e⟩|⟨_,e⟩
     .simp only[HB.cells.injEq]at e;obtain⟨rfl,rfl,rfl⟩:=e;refine⟨cs,hg,fun j c hj=>?_,pQ,fun x=>rfl⟩;rw[pM]at hj;split at hj
      .exact hj
      .simp at hj
     .exact⟨cs',e,fun _ _ h=>h,aM _,fun _=>rfl⟩
    refine⟨?_,uQ _,wU _ _,tp _ _,fun _ _ h=>.inl h,aM _,fun _ _ _ h=>.inl h⟩;exact{
     base:=h.base
     dom:=h.dom
     lt:=h.lt
     cells:=fun r' b o x cs' imm' tip' hr hc' j c hj=>by
      obtain⟨cs0,e1,e2,_⟩:=hsub r' cs' imm' tip' hc';exact h.cells r' b o x cs0 imm' tip' hr e1 j c (e2 j c hj)
     imm:=fun r' b o x cs' imm' tip' hr hc' j hj hjl=>by
      obtain⟨cs0,e1,_,e3,_⟩:=hsub r' cs' imm' tip' hc';exact h.imm r' b o x cs0 imm' tip' hr e1 j hj ac
     ext:=fun r' b o x cs' imm' tip' hr hc'=>by
      obtain⟨cs0,e1,_,e3,e4⟩:=hsub r' cs' imm' tip' hc';have:=h.ext r' b o x cs0 imm' tip' hr e1;rw[e4];omega
     fits:=fun r' b o x cs' imm' tip' hr hc'=>by
      obtain⟨cs0,e1,_,e3,e4⟩:=hsub r' cs' imm' tip' hc';have:=h.fits r' b o x cs0 imm' tip' hr e1;omega
     room:=fun r' b o x cs' imm' tip' hr hc' j hj hjl=>by
      obtain⟨cs0,e1,_,_,e4⟩:=hsub r' cs' imm' tip' hc';exact h.room r' b o x cs0 imm' tip' hr e1 j hj (by rw[<-e4];exact hjl)
     apart:=fun r1 b1 o1 x1 cs1 imm1 tip1 r2 b2 o2 x2 cs2 imm2 tip2 hr1 hc1 hr2 hc2 hne j j' q1 q2 q3 q4=>by
      obtain⟨cs01,e1,_,_,e14⟩:=hsub r1 cs1 imm1 tip1 hc1;obtain⟨cs02,e2,_,_,e24⟩:=hsub r2 cs2 imm2 tip2 hc2;exact h.apart r1 b1 o1 x1 cs01 imm1 tip1 r2 b2 o2 x2 cs02 imm2 tip2 hr1 e1 hr2 e2 hne j j' q1 (by rw[<-e14];exact q2) q3 (by rw[<-e24];exact q4)
     map:=fun r' b o x es hr hc'=>by
      rcases hgs r' _ hc' with⟨_,e⟩|⟨_,e⟩
      .simp at e
      .exact h.map r' b o x es hr e
     mapApart:=fun r1 b1 o1 x1 es r2 b2 o2 x2 hr1 hc1 hr2 hc2 hne=>by
      rcases hgs r1 _ hc1 with⟨_,e⟩|⟨_,e⟩
      .simp at e
      .refine h.mapApart r1 b1 o1 x1 es r2 b2 o2 x2 hr1 e hr2 ?_ hne;rw[bz]at hc2;split at hc2
       .rename_i e2;rw[e2,hg];rfl
       .exact hc2
     frz:=h.frz
     val:=h.val
     sym:=h.sym}
   .exact kI h
  .exact kI h
 .exact kI h
theorem Pp(h:R B H w G){keep:Bool}{t u ty:TypeId}{sv x c:AV}{svv xv:Value}(hsv:VR G sv svv)(hx:VR G x xv)(ha:zeZ P keep H t u sv x=some (c,H')):
 ∃v w' G',(Builtin.append_ #[t,u] ty #[svv,xv]).run P w=.ok v w'/\VR G' c v/\Step B H.next G w H' w' G':=by
 unfold zeZ at ha;split at ha
 .rename_i e hd;split at ha
  .rename_i s b z hs hb hz;split at ha
   .rename_i zgI hst hsrc;obtain⟨du,hu,hni⟩:=GX hst;obtain⟨nv,h1,h2,h3,h4⟩:=CD (P:=P) h hx hsrc;have hnv:nv=[]:=by rw[rV]at h2;exact List.length_eq_zero_iff.1 h2
    subst hnv;have key:∀a len cap,svv=.slice a len cap->len<=cap->(Builtin.append_ #[t,u] ty #[svv,xv]).run P w=.ok svv w:=fun a len cap e hlc=>by
     subst e;rw[GV hd hu hni hs (n:=0) ac (h3 w) (h4 w (fun _=>rfl))];cases a<;>simp[storeCells]
    split at ha
    .simp only[di]at ha;obtain⟨rfl,rfl⟩:=ha;refine⟨svv,w,G,?_,hsv,kI h⟩;cases hsv with
     |sl hr hl hc=>exact key _ _ _ rfl hl
    .simp only[di]at ha;obtain⟨rfl,rfl⟩:=ha;refine⟨svv,w,G,?_,hsv,kI h⟩;cases hsv with
     |lst vs hz hF hv hc=>exact key _ _ _ rfl hc
     |lst0 a cap=>exact key _ _ _ rfl (dE _)
    .simp only[di]at ha;obtain⟨rfl,rfl⟩:=ha;refine⟨svv,w,G,?_,hsv,kI h⟩;cases hsv with
     |nilS=>exact key _ _ _ rfl (aM _)
    .simp at ha
   .rename_i n new hnz hst hsrc;obtain⟨du,hu,hni⟩:=GX hst;obtain⟨nv,h1,h2,h3,h4⟩:=CD (P:=P) h hx hsrc;have hn0:n≠0:=fun e=>by subst e;exact hnz rfl
    have hnl:new.length=n*s:=by rw[h1.1,h2]
    obtain⟨zv,hzr,hzv⟩:=wY hz;split at ha
    .rename_i hcond;obtain⟨hone,hzl⟩:=hcond;have hzs:zv.cells.size=s:=by have:=(hzv G).1;rw[hzl]at this;simpa using this.symm
     have ht:=Po h keep s sv
     suffices hgoal:∃v w' G',(Builtin.append_ #[t,u] ty #[svv,xv]).run P w=.ok v w'/\VR G' c v/\Step B (gW keep H s sv).next G w H' w' G' by
      obtain⟨v,w',G',g1,g2,g3⟩:=hgoal;exact⟨v,w',G',g1,g2,ht.trans g3⟩
     replace h:=ht.r;clear ht hsrc;generalize gW keep H s sv=H at ha h⊢;unfold ja at ha;split at ha
     ·-- onto nil
      split at ha
      .rename_i hroom;simp only[di]at ha;obtain⟨rfl,rfl⟩:=ha;cases hsv;have hrun:=GW (P:=P) (w:=w) (ty:=ty) hd hu hni hs hb hzr (a:=none) (len:=0) (cap:=0) (n:=n) (ov:=[]) ac (by simpa using hroom.1) (by simpa using hroom.2) (h3 w) (h4 w.drew (fun _=>rfl)) (by simp[Builtin.firstCells]);have hst':=zg (h.heap (w':=w.drew) rfl) h1 (Builtin.zeroCells zv.cells (grownCap w (0+n) 0 e-(0+n))).toList e;have hge:=grownCap_ge w (0+n) 0 e;refine⟨_,_,_,hrun,?_,hst'.of_drew⟩;rw[bT]at hge⊢;refine .sl (zgD _ _ _) hge ?_;rw[GU,hzs,h2];have:grownCap w n 0 e*s=n*s+(grownCap w n 0 e-n)*s:=Ct;simp;omega
      .simp at ha
     ·-- onto a row of its own
      rename_i r off len zz;split at ha
      .rename_i cs imm hg;split at ha
       .rename_i hcond2;obtain⟨hr1,hr2,hend,rfl,himm⟩:=hcond2;cases hsv with
        |sl hr hlc hcx=>
         rename_i b0 o0 x0 cap;have hHolds:=h.cells _ _ _ _ _ _ _ hr hg;have hex:=h.ext _ _ _ _ _ _ _ hr hg;simp only[zfu]at hex;have hoff:off<=cs.length:=ac;obtain⟨ov,o1,o2,o3⟩:=hHolds.first (P:=P) (off:=off) (s:=zz) (len:=len) hend (cap:=cap)
         have hrn:r≠H.next:=fun e=>by have:=h.dom _ _ hr;omega
         by_cases hfit:len+n<=cap
         ·-- in its room
          have hrun:=GV (P:=P) (w:=w) (ty:=ty) hd hu hni hs (a:=some ⟨b0,o0+off,none⟩) hfit (h3 w) (h4 w (fun _=>rfl));simp only[]at hrun;rw[j9,jJ,hend]at hrun;have hcap:(len+n)*zz<=cap*zz:=uX _ hfit;rw[nJ]at hcap;cases keep with
          |false=>
           simp only[dS,bU,di]at ha;obtain⟨rfl,rfl⟩:=ha;obtain⟨w',hw,hstw⟩:=Cm P hr cs.length new nv cs 0 H w h hg h1 (h1.oneCell hone) ac ac wT aK;rw[hw]at hrun;simp only[fu]at hrun;rw[uV,GA]at hstw;have hstr:=GB hstw.r (r:=r) (cs:=cs++new) (imm:=imm) hr ft (off:=off) cT;refine⟨_,w',_,hrun,?_,(hstw.trans hstr).congr rfl fun k _=>?_⟩
           .refine .sl (zgD _ _ _) hfit ?_;omega
           .rw[zd1,zd1,zfU,zfU,bz,zp hoff];simp only[zgy,zef];by_cases e1:k=H.next
            .simp only[e1,bN]
            .by_cases e2:k=r
             .simp only[e2,bN]
             .simp only[e1,e2,bU]
          |true=>
           simp only[bN,di]at ha;obtain⟨rfl,rfl⟩:=ha;have hice:=wX h hr hg (n:=cs.length) himm (aM _) true (fun _=>rfl);obtain⟨w',hw,hstw⟩:=Cm P (G:=G.ice w b0 o0 cs.length) (r:=r) (imm:=cs.length) (tip:=true) hr cs.length new nv cs 0 _ w hice.r ft (h1.mono hice.ext) (h1.oneCell hone) ac ac wT aK;rw[hw]at hrun;simp only[fu]at hrun;rw[uV,GA]at hstw;have hgr:((H.set r (.cells cs cs.length true)).set r (.cells (cs++new) cs.length true)).get r=some (.cells (cs++new) cs.length true):=ft;have hstr:=GB hstw.r (r:=r) (cs:=cs++new) (imm:=cs.length) hr hgr (off:=off) cT;have hmid:=(hice.trans hstw).trans hstr;have hrr:((G.ice w b0 o0 cs.length).add H.next (b0,o0+off,x0-off)).β r=some (b0,o0,x0):=by
            simp only[Gh.add];rw[ah hrn];exact hr
           have hnoMap:∀r1 b1 o1 x1 es,((G.ice w b0 o0 cs.length).add H.next (b0,o0+off,x0-off)).β r1=some (b1,o1,x1) ->
            ((((H.set r (.cells cs cs.length true)).set r (.cells (cs++new) cs.length true)).kill r).alloc (.cells ((cs++new).drop off) (cs.length-off) true)).get r1=some (.map es)->b1≠b0:=fun r1 b1 o1 x1 es g1 g2=>by
            rw[zd1,zfU,bz,bz]at g2;simp only[zgy,zef]at g2;by_cases hne:r1=H.next
            .simp[hne]at g2
            .by_cases hne2:r1=r
             .simp[hne2]at g2
             .simp only[hne,hne2,bU]at g2;have g1':G.β r1=some (b1,o1,x1):=by simp only[Gh.add]at g1;rw[ah hne]at g1;exact g1
              exact h.mapApart r1 b1 o1 x1 es r b0 o0 x0 g1' g2 hr (by rw[hg];rfl) hne2
           have hHolds':iX ((G.ice w b0 o0 cs.length).add H.next (b0,o0+off,x0-off)) w' b0 o0 cs:=fun j c hj=>by
            have hjl:j<cs.length:=(eS.1 hj).1;have h5:=hstw.r.cells r b0 o0 x0 _ _ _ hr hgr j c (by rw[kG hjl];exact hj);obtain⟨v,q1,q2⟩:=h5;exact⟨v,q1,q2.mono hstr.ext⟩
           have hFF:∀j,j<cs.length->∃v,((G.ice w b0 o0 cs.length).add H.next (b0,o0+off,x0-off)).F b0 (o0+j)=some v:=fun j hj=>
            hice.r.imm r b0 o0 x0 cs cs.length true hr ft j hj hj
           have hrev:=OY hmid.r hrr (h.fits _ _ _ _ _ _ _ hr hg) hHolds' hFF hnoMap;refine⟨_,w',_,hrun,?_,(hmid.trans hrev).congr rfl fun k _=>?_⟩
           .refine .sl (zgD _ _ _) hfit ?_;omega
           .rw[bz,zd1,zd1,zfU,bz,bz,bz,zp hoff];simp only[zgy,zef];have:cs.length-off=len*zz:=ac;rw[this];by_cases e1:k=r
            .subst e1;simp only[hrn,bN,bU]
            .simp only[e1,bU]
         ·-- a new row
          have hfit':cap<len+n:=ac;have hrun:=GW (P:=P) (w:=w) (ty:=ty) hd hu hni hs hb hzr (a:=some ⟨b0,o0+off,none⟩) hfit' hr1 hr2 (h3 w) (h4 w.drew (fun _=>rfl)) (o3 w.drew (fun _=>rfl));have hge:=grownCap_ge w (len+n) cap e;have hlen2:(ov++nv).length=(len+n)*zz:=by rw[eO,o2,h2,nJ]
          have hcapx:grownCap w (len+n) cap e*zz=(ov++nv).length+(Builtin.zeroCells zv.cells (grownCap w (len+n) cap e-(len+n))).toList.length:=by
           rw[GU,hzs,hlen2,<-nJ];congr 1;omega
          have hst':=(zg (h.heap (w':=w.drew) rfl) (o1.append h1) (Builtin.zeroCells zv.cells (grownCap w (len+n) cap e-(len+n))).toList e).of_drew;have hnn:∀(X:HB) (k:Nat),k≠H.next->(H.alloc X).get k=H.get k:=fun X k hk=>by rw[zd1,ah hk]
          have hadd:∀p,(G.add H.next p).β H.next=some p:=fun p=>zgD _ _ _
          have hlenX:(cs.drop off++new).length=(len+n)*zz:=by rw[eO,mC,hnl,nJ];omega
          cases keep with
          |false=>
           simp only[dS,bU,di]at ha;obtain⟨rfl,rfl⟩:=ha;have hk:=hst'.r.kill r;have hgx:((H.alloc (.cells (cs.drop off++new) 0 true)).kill r).get H.next=some (.cells (cs.drop off++new) 0 true):=by
            rw[zfU,ah (Ne.symm hrn),zd1,aE rfl]
           have hice:=wX hk (hadd _) hgx (n:=imm-off) (dE _) (by rw[hlenX,nJ];omega) true (fun _=>rfl);have hst2:Step B H.next G w _ _ _:=⟨hk,hst'.ext,hst'.fr,hst'.new,hst'.low,hst'.mono,hst'.icy⟩
           refine⟨_,_,_,hrun,?_,(hst2.trans hice).congr rfl fun k _=>?_⟩
           .exact .sl (hadd _) hge ac
           .rw[bz,zd1,zfU,zfU,zd1];simp only[zgy];by_cases e1:k=H.next
            .simp only[e1,bN]
            .simp only[e1,bU]
          |true=>
           simp only[bN,di]at ha;obtain⟨rfl,rfl⟩:=ha;have hgx:(H.alloc (.cells (cs.drop off++new) 0 true)).get H.next=some (.cells (cs.drop off++new) 0 true):=eR
           have hice:=wX hst'.r (hadd _) hgx (n:=len*zz) (dE _) (by rw[hlenX,nJ];omega) true (fun _=>rfl);have hgr:((H.alloc (.cells (cs.drop off++new) 0 true)).set H.next (.cells (cs.drop off++new) (len*zz) true)).get r=some (.cells cs imm true):=by
            rw[bz,ah hrn,hnn _ _ hrn];exact hg
           have hice2:=wX hice.r (r:=r) (by
            show(G.add H.next _).β r=_;simp only[Gh.add];rw[ah hrn];exact hr) hgr (n:=cs.length) himm (aM _) false aK
           refine⟨_,_,_,hrun,?_,((hst'.trans hice).trans hice2).congr rfl fun k _=>?_⟩
           .exact .sl (hadd _) hge ac
           .rw[bz,bz,zd1,zd1,bz];simp only[zef];by_cases e1:k=H.next
            .have e3:¬H.next=r:=fun e=>hrn e.symm
             simp only[e1,e3,bN,bU]
            .simp only[e1,bU]
       .simp at ha
      .simp at ha
     .simp at ha
    .simp at ha
   .simp at ha
  .simp at ha
 .simp at ha
end
section
variable {P:Program} {B:Bs} {G:Gh} {H H':Hp} {w:World}
theorem Pq(sv:ByteArray):sv.data.toList.length=sv.size:=Cr
theorem GY(h:R B H w G){m:AV}{mv:Value}{es:List (AV×AV)}(hm:VR G m mv)(he:tc H m=some es):
 (mv=.map none/\es=[])\/∃r b o x ms clock,m=.map r/\mv=.map (some b)/\G.β r=some (b,o,x)/\H.get r=some (.map es)/\w.heap[b]?=some (.map ms clock)/\qF G es ms.toList:=by
 unfold tc at he;split at he
 .simp only[aQ]at he;subst he;cases hm;exact .inl ⟨rfl,rfl⟩
 .rename_i r;split at he
  .rename_i es' hg;simp only[aQ]at he;subst he;cases hm with
   |map hr=>
    rename_i b o x;obtain⟨ms,clock,h1,h2⟩:=h.map r b o x _ hr hg;exact .inr ⟨r,b,o,x,ms,clock,rfl,rfl,hr,hg,h1,h2⟩
  .simp at he
 .simp at he
theorem w7{b:Nat}{ms:Array MapEntry}{clock:Nat}(h:w.heap[b]?=some (.map ms clock)):(getObj b).run P w=.ok (.map ms clock) w:=by
 simp[getObj,Sem.run,h]
theorem Ps(h:R B H w G){t ty:TypeId}{x c:AV}{xv:Value}(hx:VR G x xv)(hl:zeR P H t x=some c):∃v,(Builtin.len_ #[t] ty #[xv]).run P w=.ok v w/\VR G c v:=by
 unfold zeR at hl;split at hl
 .rename_i hd;split at hl
  .simp only[aQ]at hl;subst hl;cases hx with
   |str sv _ hs=>
    subst hs;refine⟨_,?_,.int _ _⟩;rw[Pq];simp[Builtin.len_,zfl hd,goInt]
  .simp at hl
 .rename_i e hd;split at hl
  .simp only[aQ]at hl;subst hl;cases hx;exact⟨_,wZ,.int _ _⟩
  .simp only[aQ]at hl;subst hl;cases hx
   .exact⟨_,wZ,.int _ _⟩
   .exact⟨_,wZ,.int _ _⟩
  .simp only[aQ]at hl;subst hl;cases hx;exact⟨_,wZ,.int _ _⟩
  .simp at hl
 .rename_i n e hd;simp only[aQ]at hl;subst hl;refine⟨.int .i64 n,?_,.int _ _⟩;simp only[Builtin.len_];simp[zfl hd,goInt]
 .rename_i kt e hd;split at hl
  .rename_i es he;simp only[aQ]at hl;subst hl;rcases GY h hx he with⟨rfl,rfl⟩|⟨r,b,o,xx,ms,clock,rfl,rfl,hr,hg,hw,hes⟩
   .exact⟨_,wZ,.int _ _⟩
   .refine⟨.int .i64 es.length,?_,.int _ _⟩;have:ms.size=es.length:=by have:=hes.1;simpa using this.symm
    simp[Builtin.len_,zfl hd,w7 hw,goInt,this]
  .simp at hl
 .simp at hl
theorem Pt{mx:Bool}{x y c:AV}{xv yv:Value}(hx:VR G x xv)(hy:VR G y yv)(h:mm mx x y=some c):∃v,((if mx then Builtin.max2 else Builtin.min2) xv yv).run P w=.ok v w/\VR G c v:=by
 unfold mm at h;split at h
 .simp only[aQ]at h;subst h;cases hx;cases hy;cases mx
  .refine⟨_,rfl,?_⟩;simp only[dS,bU,jt];exact .int _ _
  .refine⟨_,rfl,?_⟩;simp only[bN,jt];exact .int _ _
 .simp at h
theorem CE{mx:Bool}:∀{xs:List AV}{xvs:List Value}{x c:AV}{xv:Value},VR G x xv->cr G xs xvs->oH mx x xs=some c ->
 ∃v,(xvs.foldlM (if mx then Builtin.max2 else Builtin.min2) xv).run P w=.ok v w/\VR G c v
 |[],xvs,x,c,xv,hx,hxs,h=>by
  simp only[oH,aQ]at h;subst h;have:xvs=[]:=by have:=hxs.1;simpa using this.symm
  subst this;exact⟨xv,rfl,hx⟩
 |y::ys,[],_,_,_,_,hxs,_=>by have:=hxs.1;simp at this
 |y::ys,yv::yvs,x,c,xv,hx,hxs,h=>by
  obtain⟨h1,h2⟩:=hxs.of_cons;simp only[oH]at h;split at h
  .rename_i z hz;obtain⟨zv,g1,g2⟩:=Pt (P:=P) (w:=w) hx h1 hz;obtain⟨v,k1,k2⟩:=CE g2 h2 h;exact⟨v,by rw[List.foldlM_cons,fk,g1];exact k1,k2⟩
  .simp at h
theorem CF{t:TypeId}{d:TypeDesc}(h:ny P t=some d):P.underlying t=some d/\((∃k,d=.int k)\/d=.string\/d=.bool):=by
 unfold ny at h;split at h<;>simp only[aQ,reduceCtorEq]at h<;>subst h
 .rename_i k hd;exact⟨hd,.inl ⟨k,rfl⟩⟩
 .rename_i hd;exact⟨hd,.inr (.inl rfl)⟩
 .rename_i hd;exact⟨hd,.inr (.inr rfl)⟩
theorem CG{d:TypeDesc}{x y:AV}{xv yv:Value}{r:Bool}(hx:VR G x xv)(hy:VR G y yv)(h:pK d x y=some r):Instr.sameNow d xv yv=some r:=by
 unfold pK at h;split at h
 .split at h
  .cases hx;cases hy;exact h
  .simp at h
 .split at h
  .cases hx with
   |str a _ ha=>cases hy with
    |str b _ hb=>
     subst ha hb;simp only[aQ]at h;subst h;simp only[Instr.sameNow,aQ];show(a.data == b.data)=(a.data.toList == b.data.toList);rw[Bool.eq_iff_iff];simp only[mE,Array.toList_inj]
  .simp at h
 .split at h
  .cases hx;cases hy;exact h
  .simp at h
 .simp at h
theorem CH{d:TypeDesc}{k:AV}{kv:Value}(hk:VR G k kv):∀{es:List (AV×AV)}{ms:List MapEntry}{i:Nat},qF G es ms ->
 (gX d k es i=some none->Instr.findNow d kv ms i=some none) /\
 (∀j v,gX d k es i=some (some (j,v))->∃k' m,es[j-i]?=some (k',v)/\ms[j-i]?=some m/\i<=j/\pK d k k'=some true/\Instr.findNow d kv ms i=some (some (j,m.val)))
 |[],ms,i,he=>by
  have:ms=[]:=by have:=he.1;simpa using this.symm
  subst this;exact⟨fun _=>rfl,fun j v h=>by simp[gX]at h⟩
 |e::es,[],i,he=>by have:=he.1;simp at this
 |(k',v')::es,m::ms,i,he=>by
  obtain⟨h1,h2⟩:=he.2 0 (k',v') m rfl rfl;have he':qF G es ms:=⟨by simpa using he.1,fun j a b ha hb=>he.2 (j+1) a b (by simpa using ha) (by simpa using hb)⟩;obtain⟨r1,r2⟩:=CH (d:=d) hk (i:=i+1) he';constructor
  .intro h;simp only[gX]at h;split at h
   .simp at h
   .rename_i hf;have:=CG hk h1 hf;simp only[Instr.findNow,this];exact r1 h
   .simp at h
  .intro j v h;simp only[gX]at h;split at h
   .rename_i hf;simp only[di]at h;obtain⟨rfl,rfl⟩:=h;have:=CG hk h1 hf;exact⟨k',m,aK,aK,aM _,hf,by simp only[Instr.findNow,this]⟩
   .rename_i hf;have:=CG hk h1 hf;obtain⟨k2,m2,g1,g2,g3,g4,g5⟩:=r2 j v h;have e1:j-i=(j-(i+1))+1:=ac;refine⟨k2,m2,by rw[e1];simpa using g1,by rw[e1];simpa using g2,ac,g4,?_⟩;simp only[Instr.findNow,this];exact g5
   .simp at h
theorem Pu(n:Nat){kt:TypeId}{d:TypeDesc}(hd:ny P kt=some d)(e:Bool)(kv:Value):(Instr.checkKey e (n+1) kt kv).run P w=.ok () w:=by
 obtain⟨h1,h2⟩:=CF hd;simp only[Instr.checkKey,fk,zfl h1,fu];rcases h2 with⟨k,rfl⟩|rfl|rfl<;>rfl
theorem xc{kt:TypeId}{d:TypeDesc}(hd:ny P kt=some d)(e:Bool)(kv:Value):(Instr.checkKey e 10000 kt kv).run P w=.ok () w:=Pu 9999 hd e kv
theorem xd{kt:TypeId}{d:TypeDesc}(hd:P.underlying kt=some d){kv:Value}{ms:List MapEntry}{r:Option (Nat×Value)}(h:Instr.findNow d kv ms 0=some r):(Instr.findKey kt kv ms).run P w=.ok r w:=by
 simp[Instr.findKey,zfl hd,h]
theorem Pv{t kt e:TypeId}{d:TypeDesc}(hd:P.underlying t=some (.map kt e))(hk:ny P kt=some d){mv kv:Value}{ok:Bool}{ms:Array MapEntry}
 (hm:(mv=.map none/\ms=#[])\/∃b clock,mv=.map (some b)/\w.heap[b]?=some (.map ms clock)) :
 (∀j v,Instr.findNow d kv ms.toList 0=some (some (j,v))->(Instr.lookup t mv kv ok).run P w=.ok (if ok then .tuple #[v,.bool true]else v) w) /\
 (∀zv,(zeroValue e).run P w=.ok zv w->Instr.findNow d kv ms.toList 0=some none->(Instr.lookup t mv kv ok).run P w=.ok (if ok then .tuple #[zv,.bool false]else zv) w):=by
 have hkd:=(CF hk).1;rcases hm with⟨rfl,rfl⟩|⟨b,clock,rfl,hw⟩
 .refine⟨fun j v hf=>by simp[Instr.findNow]at hf,fun zv hz hf=>?_⟩;have hfk:=xd (P:=P) (w:=w) hkd hf;simp only[Instr.lookup,fk,zfl hd,fu,jK,xc hk,hfk,hz]
 .refine⟨fun j v hf=>?_,fun zv hz hf=>?_⟩
  .have hfk:=xd (P:=P) (w:=w) hkd hf;simp only[Instr.lookup,fk,zfl hd,fu,w7 hw,jK,xc hk,hfk]
  .have hfk:=xd (P:=P) (w:=w) hkd hf;simp only[Instr.lookup,fk,zfl hd,fu,w7 hw,jK,xc hk,hfk,hz]
theorem Pw(h:R B H w G){t:TypeId}{m k c:AV}{mv kv:Value}{ok:Bool}(hm:VR G m mv)(hk:VR G k kv)(hl:zge P H t m k ok=some c):
 ∃v,(Instr.lookup t mv kv ok).run P w=.ok v w/\VR G c v:=by
 unfold zge at hl;split at hl
 .rename_i kt e hd;split at hl
  .rename_i es kind hes hkind;obtain⟨ms,hms,hE⟩:∃ms:Array MapEntry,((mv=.map none/\ms=#[])\/∃b clock,mv=.map (some b)/\w.heap[b]?=some (.map ms clock))/\qF G es ms.toList:=by
    rcases GY h hm hes with⟨rfl,rfl⟩|⟨r,b,o,xx,ms,clock,rfl,rfl,hr,hg,hw,he⟩
    .exact⟨#[],.inl ⟨rfl,rfl⟩,rfl,aK⟩
    .exact⟨ms,.inr ⟨b,clock,rfl,hw⟩,he⟩
   obtain⟨f1,f2⟩:=CH (d:=kind) hk (i:=0) hE;obtain⟨r1,r2⟩:=Pv (kv:=kv) (ok:=ok) hd hkind hms;split at hl
   .rename_i j v hf;simp only[aQ]at hl;subst hl;obtain⟨k',m',g1,g2,_,_,g5⟩:=f2 j v hf;have hv:=(hE.2 _ _ _ g1 g2).2;refine⟨_,r1 _ _ g5,?_⟩;cases ok
    .exact hv
    .exact .tup (vs:=[m'.val,.bool true]) rfl (iE hv (iE (.bool true) (j8 _))).2
   .rename_i hf;split at hl
    .rename_i v hv;simp only[aQ]at hl;subst hl;obtain⟨zv,z1,z2⟩:=OZ hv;refine⟨_,r2 _ (z1 w) (f1 hf),?_⟩;cases ok
     .exact z2 G
     .exact .tup (vs:=[zv,.bool false]) rfl (iE (z2 G) (iE (.bool false) (j8 _))).2
    .simp at hl
   .simp at hl
  .simp at hl
 .simp at hl
end
section
variable {P:Program} {B:Bs} {G:Gh} {H H':Hp} {w:World}
theorem GZ(h:R B H w G){r b o x:Nat}{es es':List (AV×AV)}{ms':Array MapEntry}{clock':Nat}(hr:G.β r=some (b,o,x))(hg:H.get r=some (.map es))(he:qF G es' ms'.toList):
 Step B H.next G w (H.set r (.map es')) {w with heap:=w.heap.setIfInBounds b (.map ms' clock') } G:=by
 obtain⟨ms,clock,hw,_⟩:=h.map r b o x es hr hg;have hb:b<w.heap.size:=(h.lt r b o x hr).2
 let w':World:={w with heap:=w.heap.setIfInBounds b (.map ms' clock') }
 have hheap:∀k,k≠b->w'.heap[k]?=w.heap[k]?:=fun k hk=>by
  show(w.heap.setIfInBounds b _)[k]?=_;rw[tn,ah (Ne.symm hk)]
 have hheapb:w'.heap[b]?=some (.map ms' clock'):=by
  show(w.heap.setIfInBounds b _)[b]?=_;simp[hb]
 have hcell:∀b' o' v,w.cell? ⟨b',o',none⟩=some v->b'≠b:=fun b' o' v hc e=>by
  subst e;unfold World.cell? at hc;rw[hw]at hc;simp at hc
 have hkeep:∀b' o' v,w.cell? ⟨b',o',none⟩=some v->w'.cell? ⟨b',o',none⟩=some v:=fun b' o' v hc=>by
  rw[World.cell?_of_block (w:=w) (hheap b' (hcell b' o' v hc))];exact hc
 have hget:∀k,k≠r->(H.set r (.map es')).get k=H.get k:=fun k hk=>jg;have hgetr:(H.set r (.map es')).get r=some (.map es'):=ft;refine⟨?_,uQ _,⟨rfl,rfl,rfl,aK,fun k hk hn=>hheap k (fun e=>hn r b o x hr e.symm)⟩,tp _ _,fun _ _ h=>.inl h,aM _,fun _ _ _ h=>.inl h⟩;exact{
  base:=by have:=h.base;simpa using this
  dom:=h.dom
  lt:=fun r b o x hr=>by have:=h.lt r b o x hr;simpa using this
  cells:=fun k b' o' x' cs imm tip hk hc=>by
   by_cases e:k=r
   .subst e;rw[hgetr]at hc;simp at hc
   .rw[hget k e]at hc;intro j c hj;obtain⟨v,h1,h2⟩:=h.cells k b' o' x' cs imm tip hk hc j c hj;exact⟨v,hkeep _ _ _ h1,h2⟩
  imm:=fun k b' o' x' cs imm tip hk hc=>by
   by_cases e:k=r
   .subst e;rw[hgetr]at hc;simp at hc
   .rw[hget k e]at hc;exact h.imm k b' o' x' cs imm tip hk hc
  ext:=fun k b' o' x' cs imm tip hk hc=>by
   by_cases e:k=r
   .subst e;rw[hgetr]at hc;simp at hc
   .rw[hget k e]at hc;exact h.ext k b' o' x' cs imm tip hk hc
  fits:=fun k b' o' x' cs imm tip hk hc=>by
   by_cases e:k=r
   .subst e;rw[hgetr]at hc;simp at hc
   .rw[hget k e]at hc;exact h.fits k b' o' x' cs imm tip hk hc
  room:=fun k b' o' x' cs imm tip hk hc j hj hjl=>by
   by_cases e:k=r
   .subst e;rw[hgetr]at hc;simp at hc
   .rw[hget k e]at hc;obtain⟨⟨v,h1⟩,h2,h3⟩:=h.room k b' o' x' cs imm tip hk hc j hj hjl;refine⟨⟨v,hkeep _ _ _ h1⟩,?_,h3⟩;rw[World.frozen?_of_block (w:=w) (hheap b' (hcell _ _ _ h1))];exact h2
  apart:=fun k1 b1 o1 x1 cs1 imm1 tip1 k2 b2 o2 x2 cs2 imm2 tip2 hk1 hc1 hk2 hc2=>by
   by_cases e1:k1=r
   .subst e1;rw[hgetr]at hc1;simp at hc1
   .by_cases e2:k2=r
    .subst e2;rw[hgetr]at hc2;simp at hc2
    .rw[hget k1 e1]at hc1;rw[hget k2 e2]at hc2;exact h.apart k1 b1 o1 x1 cs1 imm1 tip1 k2 b2 o2 x2 cs2 imm2 tip2 hk1 hc1 hk2 hc2
  map:=fun k b' o' x' es1 hk hc=>by
   by_cases e:k=r
   .subst e;have hk':=hk;rw[hr]at hk';simp only[di]at hk';obtain⟨rfl,rfl,rfl⟩:=hk';rw[hgetr]at hc;simp only[aQ,HB.map.injEq]at hc;subst hc;exact⟨ms',clock',hheapb,he⟩
   .rw[hget k e]at hc;obtain⟨ms1,clock1,h1,h2⟩:=h.map k b' o' x' es1 hk hc;refine⟨ms1,clock1,?_,h2⟩;rw[hheap b' (fun eb=>h.mapApart k b' o' x' es1 r b o x hk hc hr (by rw[hg];rfl) e eb)];exact h1
  mapApart:=fun k1 b1 o1 x1 es1 k2 b2 o2 x2 hk1 hc1 hk2 hs hne=>by
   have hs':(H.get k2).isSome:=by
    by_cases e2:k2=r
    .subst e2;rw[hg];rfl
    .rw[hget k2 e2]at hs;exact hs
   by_cases e1:k1=r
   .subst e1;exact h.mapApart k1 b1 o1 x1 es k2 b2 o2 x2 hk1 hg hk2 hs' hne
   .rw[hget k1 e1]at hc1;exact h.mapApart k1 b1 o1 x1 es1 k2 b2 o2 x2 hk1 hc1 hk2 hs' hne
  frz:=fun b' o' v hf=>hkeep _ _ _ (h.frz b' o' v hf)
  val:=h.val
  sym:=h.sym}
theorem G3{b:Nat}{ms ms':Array MapEntry}{clock clock':Nat}(h:w.heap[b]?=some (.map ms clock)):
 (setObj b (.map ms' clock')).run P w=.ok () {w with heap:=w.heap.setIfInBounds b (.map ms' clock') }:=by
 simp[setObj,Sem.run,h]
theorem Px(n:Nat){d:TypeDesc}{x y:AV}{xv yv:Value}(hx:VR G x xv)(hy:VR G y yv)(h:pK d x y=some true):Instr.sameBits n yv xv=true:=by
 unfold pK at h;split at h
 .split at h
  .split at h
   .rename_i e;subst e;cases hx;cases hy;simp only[aQ,mE]at h;subst h;cases n<;>simp[Instr.sameBits]
   .simp at h
  .simp at h
 .split at h
  .cases hx with
   |str a _ ha=>cases hy with
    |str b _ hb=>
     subst ha hb;simp only[aQ,mE]at h;have hab:(b == a)=true:=by
      show(b.data == a.data)=true;simp only[mE];exact(nI h).symm
     cases n<;>simp[Instr.sameBits,hab]
  .simp at h
 .split at h
  .cases hx;cases hy;simp only[aQ,mE]at h;subst h;cases n<;>simp[Instr.sameBits]
  .simp at h
 .simp at h
theorem Py{old new:Value}(h:Instr.sameBits 10000 old new=true):(Instr.keyThatStays old new).run P w=.ok new w:=by
 unfold Instr.keyThatStays;rw[aE h];rfl
theorem Pz(h:R B H w G){t:TypeId}{m k v:AV}{mv kv vv:Value}(hm:VR G m mv)(hk:VR G k kv)(hv:VR G v vv)(hu:zgu P H t m k v=some H'):
 ∃w',(Instr.mapUpdate t mv kv vv).run P w=.ok () w'/\Step B H.next G w H' w' G:=by
 unfold zgu at hu;split at hu
 .rename_i kt e hd;split at hu
  .rename_i r kind hkind;split at hu
   .rename_i es hg;cases hm with
    |map hr=>
     rename_i b o x;obtain⟨ms,clock,hw,hE⟩:=h.map r b o x es hr hg;obtain⟨f1,f2⟩:=CH (d:=kind) hk (i:=0) hE;have hkd:=(CF hkind).1;split at hu
     .rename_i j v0 hf;simp only[aQ]at hu;subst hu;obtain⟨k',m',g1,g2,_,g4,g5⟩:=f2 j v0 hf;simp only[w1]at g1 g2;have hjl:j<ms.size:=by have:=(eS.1 g2).1;simpa using this
      have hjm:ms[j]?=some m':=by simpa using g2
      have hsame:=Px 10000 hk (hE.2 j _ _ g1 g2).1 g4;have hfk:=xd (P:=P) (w:=w) hkd g5;refine⟨_,?_,GZ h hr hg (ms':=ms.modify j fun e=>{e with key:=kv,val:=vv}) (clock':=clock) ?_⟩
      .simp only[Instr.mapUpdate,fk,zfl hd,fu,w7 hw,xc hkind,hfk,hjm,qK,cj,Py hsame,G3 hw]
      .refine⟨by have:=hE.1;simpa using this,fun i a c ha hc=>?_⟩;rw[zq]at ha;rw[tz,Array.getElem?_modify]at hc;by_cases e:j=i
       .subst e;rw[aE rfl]at hc;rw[aE rfl]at ha;split at ha
        .simp only[aQ]at ha;subst ha;rw[hjm]at hc;simp only[ju]at hc;subst hc;exact⟨hk,hv⟩
        .simp at ha
       .rw[ah e]at ha hc;exact hE.2 i a c ha y4
     .rename_i hf;simp only[aQ]at hu;subst hu;have hfk:=xd (P:=P) (w:=w) hkd (f1 hf);refine⟨_,?_,GZ h hr hg (ms':=ms.push {key:=kv,val:=vv,born:=clock}) (clock':=clock+1) ?_⟩
      .simp only[Instr.mapUpdate,fk,zfl hd,fu,w7 hw,xc hkind,hfk,G3 hw]
      .refine⟨by have:=hE.1;simpa using this,fun i a c ha hc=>?_⟩;rw[Array.toList_push]at hc;have hl:=hE.1;by_cases hi:i<es.length
       .rw[kG hi]at ha;rw[kG ac]at hc;exact hE.2 i a c ha hc
       .rw[mB ac]at ha;rw[mB ac]at hc;rw[<-hl]at hc;cases hi0:i-es.length with
        |zero=>
         rw[hi0]at ha hc;simp at ha hc;subst ha hc;exact⟨hk,hv⟩
        |succ n=>rw[hi0]at ha;simp at ha
     .simp at hu
   .simp at hu
  .simp at hu
 .simp at hu
theorem G4:∀{cs:List AV}{bs:List UInt8}{vs:List Value},tf cs=some bs->cr G cs vs->∃ns:List Int,vs=ns.map (Value.int .u8)/\bs=ns.map fun n=>UInt8.ofNat n.toNat
 |[],bs,vs,h,hv=>by
  simp only[tf,aQ]at h;subst h;have:vs=[]:=by have:=hv.1;simpa using this.symm
  subst this;exact⟨[],rfl,rfl⟩
 |c::cs,bs,[],h,hv=>by have:=hv.1;simp at this
 |c::cs,bs,v::vs,h,hv=>by
  obtain⟨h1,h2⟩:=hv.of_cons;unfold tf at h;split at h
  .rename_i e;simp at e
  .rename_i n cs' e;simp only[eD]at e;obtain⟨rfl,rfl⟩:=e;split at h
   .rename_i bs' hb;simp only[aQ]at h;subst h;obtain⟨ns,rfl,rfl⟩:=G4 hb h2;cases h1;exact⟨n::ns,rfl,rfl⟩
   .simp at h
  .simp at h
theorem PA(ns:List Int):∀s:ByteArray,(ns.foldl (fun r n=>r.push (UInt8.ofNat n.toNat)) s).data.toList=s.data.toList++ns.map fun n=>UInt8.ofNat n.toNat:=by
 induction ns with
 |nil=>intro s;simp
 |cons n ns ih=>intro s;rw[List.foldl_cons,ih];simp[ByteArray.push]
theorem PB(h:R B H w G){src dst:TypeId}{x c:AV}{xv:Value}(hx:VR G x xv)(hc:jq P H src dst x=some c):∃v,(convert src dst xv).run P w=.ok v w/\VR G c v:=by
 unfold jq at hc;split at hc
 .rename_i e hs hd;split at hc
  .rename_i he;split at hc
   .rename_i n cs hsrc;split at hc
    .rename_i bs hbs;obtain⟨nv,h1,h2,h3,h4⟩:=CD (P:=P) h hx hsrc;obtain⟨ns,hns,rfl⟩:=G4 hbs h1;split at hc
     .simp only[aQ]at hc;subst hc;cases hx with
      |sl hr hl hcx=>
       rename_i b o xx cap;have hl3:=h3 w;simp[Builtin.lenOf]at hl3;subst hl3;have hf:=h4 w (fun _=>rfl);simp only[Builtin.firstCells,lY]at hf;rw[hns]at hf;refine⟨_,by rw[run_convert_bytes_string w src dst e _ _ _ hs he hd,run_bytesToString w _ _ _ ns hf],.str _ _ ?_⟩;rw[PA];rfl
     .simp only[aQ]at hc;subst hc;cases hx;have hl3:=h3 w;simp[Builtin.lenOf]at hl3;have:ns=[]:=by
       have e1:(ns.map (Value.int .u8)).length=0:=by rw[<-hns,h2,<-hl3]
       simpa using e1
      subst this;refine⟨.string .empty,?_,.str _ _ rfl⟩;rw[run_convert_bytes_string w src dst e _ _ _ hs he hd];rfl
     .simp at hc
    .simp at hc
   .simp at hc
  .simp at hc
 .rename_i ds k hn hs hd;split at hc
  .simp only[aQ]at hc;subst hc;cases hx;refine⟨_,?_,.int _ _⟩;simp[convert,zfl hs,zfl hd,Conv.intToInt]
  .simp only[aQ]at hc;subst hc;cases hx;rename_i k0 e0;refine⟨_,?_,.sx _ _⟩;simp[convert,zfl hs,zfl hd,Conv.intToInt,Sx.eval]
  .simp at hc
 .rename_i hn hs hd;split at hc
  .simp only[aQ]at hc;subst hc;have hx':=hx;cases hx with
   |str sv _ he=>
    refine⟨.string sv,?_,hx'⟩;simp[convert,zfl hs,zfl hd]
  .simp at hc
 .simp at hc
end
section
variable {P:Program} {B:Bs} {G:Gh} {H H':Hp} {w:World}
def tB(G:Gh)(E:aG)(a:Act)(xs:Array Operand):Prop:=∀x∈xs,∀c,zd0 E x=some c->VR G c (a.eval x)
theorem zx{E:aG}{a:Act}:∀{xs:List Operand}{cs:List AV},(∀x∈xs,∀c,zd0 E x=some c->VR G c (a.eval x))->zfV E xs=some cs->cr G cs (xs.map a.eval)
 |[],cs,_,h=>by
  simp only[zfV,aQ]at h;subst h;exact j8 G
 |x::xs,cs,hk,h=>by
  simp only[zfV]at h;split at h
  .rename_i v vs hv hvs;simp only[aQ]at h;subst h;exact iE (hk x aK v hv) (zx (fun y hy=>hk y (by simp[hy])) hvs)
  .simp at h
theorem zgh{s:Sem Value}{c:AV}(h:R B H w G)(hs:∃v,s.run P w=.ok v w/\VR G c v):tt P B H G w (do pure (.value (<-s))) c H:=by
 obtain⟨v,h1,h2⟩:=hs;exact⟨.value v,w,G,v,by simp[h1],.inl rfl,h2,kI h⟩
theorem uY{s:Sem Value}{c:AV}(hs:∃v w' G',s.run P w=.ok v w'/\VR G' c v/\Step B H.next G w H' w' G'):tt P B H G w (do pure (.value (<-s))) c H':=by
 obtain⟨v,w',G',h1,h2,h3⟩:=hs;exact⟨.value v,w',G',v,by simp[h1],.inl rfl,h2,h3⟩
theorem G5{s:Sem Unit}(hs:∃w',s.run P w=.ok () w'/\Step B H.next G w H' w' G):tt P B H G w (do s;pure .skip) zff H':=by
 obtain⟨w',h1,h2⟩:=hs;exact⟨.skip,w',G,undef,by simp[h1],.inr ⟨rfl,rfl⟩,wV G,h2⟩
theorem G6{E:aG}{a:Act}{x:Option Operand}{c:Option AV}(hk:∀y∈x.toArray,∀c,zd0 E y=some c->VR G c (a.eval y))(h:zf5 E x=some c):tA G c (x.map a.eval):=by
 unfold zf5 at h;split at h
 .simp only[aQ]at h;subst h;exact trivial
 .rename_i y;split at h
  .rename_i v hv;simp only[aQ]at h;subst h;exact hk y aK v hv
  .simp at h
theorem PC{D:BinOp->Sx->Sx->Option Bool}{E:aG}{a:Act}{o:Oper}{c:AV}(hk:rP o=true)(hE:tB G E a o.op.operands)(hop:dD P D E H o.op=some (c,H')):oM P G w (execOp a.eval o) Next.value c H H':=by
 obtain⟨dst,op,ty,pos,after,guard⟩:=o;simp only[]at hop hE;cases op<;>simp only[rP,jc,dS]at hk
 case alloc t=>
  simp only[dD]at hop;unfold wF at hop;split at hop
  .rename_i z hz;simp only[di]at hop;obtain⟨rfl,rfl⟩:=hop;obtain⟨zv,z1,z2⟩:=wY hz;refine oM.next ⟨.cells z 0 true,.cells (zv.cells.toList++[]).toArray t,zv.cells.toList.length+0,.pointer (some ⟨w.heap.size,0,none⟩),rfl,?_,.cells z zv.cells.toList [] t (z2 G),fun G' hG=>.ptr (off:=0) hG⟩
   simp[Instr.alloc,z1,newVar,newRow]
  .simp at hop
 case box t x=>
  simp only[dD]at hop;unfold wG at hop;split at hop
  .rename_i v hv;simp only[di]at hop;obtain⟨rfl,rfl⟩:=hop;have hx:=(hE x fw _ hv).cells;refine oM.next ⟨.cells v.cells 0 true,.cells ((a.eval x).cells.toList++[]).toArray t,(a.eval x).cells.toList.length+0,.pointer (some ⟨w.heap.size,0,none⟩),rfl,?_,.cells v.cells _ [] t hx,fun G' hG=>.ptr (off:=0) hG⟩
   simp[Instr.box,newVar,newRow]
  .simp at hop
 case buildSlice t len parts=>
  simp only[dD]at hop;unfold wH at hop;split at hop
  .rename_i ps hps;obtain⟨q1,q2⟩:=zu (G:=G) (a:=a) (fun p hp=>hE p.2 Cv) hps;have:=GS (P:=P) (w:=w) q1 q2 hop;have he:(parts.toList.map fun x=>(x.1,a.eval x.2)).toArray=parts.map fun(i,x)=>(i,a.eval x):=by
    apply nI;simp
   rw[he]at this;exact this.next
  .simp at hop
 case makeMap t r=>
  simp only[dD]at hop;unfold wK at hop;split at hop
  .simp only[di]at hop;obtain⟨rfl,rfl⟩:=hop;refine oM.next ⟨.map [],.map #[] 0,0,.map (some w.heap.size),rfl,?_,.map,fun G' hG=>.map hG⟩
   simp[Instr.makeMap]
  .simp at hop
 case makeSlice t l c'=>
  simp only[dD]at hop;unfold wL at hop;split at hop
  .rename_i lv cv hl hc;exact(GT (hE l fw _ hl) (hE c' fw _ hc) hop).next
  .simp at hop
 case call cl=>
  simp only[dD,reduceCtorEq]at hop
theorem PD(h:R B H w G){E:aG}{a:Act}{o:Oper}{c:AV}(hE:tB G E a o.op.operands)(hop:dD P B.cfg.dec E H o.op=some (c,H')):tt P B H G w (execOp a.eval o) c H':=by
 obtain⟨dst,op,ty,pos,after,guard⟩:=o;simp only[]at hop hE;cases op<;>simp only[dD,reduceCtorEq]at hop
 case move x=>
  obtain⟨h1,rfl⟩:=zgf hop;exact uU h rfl (hE x fw _ h1)
 case assign x=>
  obtain⟨h1,rfl⟩:=zgf hop;exact uU h rfl (hE x fw _ h1)
 case pick x y z=>
  unfold yP at hop;split at hop
  .rename_i hc;obtain⟨h1,rfl⟩:=zgf hop;have hb:=hE x fw _ hc;have:a.eval x=.bool true:=by generalize a.eval x=v at hb;cases hb;rfl
   exact uU h (v:=a.eval y) (by simp[execOp,asBool,this]) (hE y fw _ h1)
  .rename_i hc;obtain⟨h1,rfl⟩:=zgf hop;have hb:=hE x fw _ hc;have:a.eval x=.bool false:=by generalize a.eval x=v at hb;cases hb;rfl
   exact uU h (v:=a.eval z) (by simp[execOp,asBool,this]) (hE z fw _ h1)
  .simp at hop
 case alloc t=>
  unfold wF at hop;split at hop
  .rename_i z hz;simp only[di]at hop;obtain⟨rfl,rfl⟩:=hop;obtain⟨zv,z1,z2⟩:=wY hz;have hst:=zg h (z2 G) [] t;rw[ll,uW]at hst;refine uY ⟨.pointer (some ⟨w.heap.size,0,none⟩),_,_,?_,?_,hst⟩
   .simp[Instr.alloc,z1,newVar,newRow]
   .exact .ptr (off:=0) (zgD _ _ _)
  .simp at hop
 case box t x=>
  unfold wG at hop;split at hop
  .rename_i v hv;simp only[di]at hop;obtain⟨rfl,rfl⟩:=hop;have hst:=zg h (hE x fw _ hv).cells [] t;rw[ll,uW]at hst;refine uY ⟨.pointer (some ⟨w.heap.size,0,none⟩),_,_,?_,?_,hst⟩
   .simp[Instr.box,newVar,newRow]
   .exact .ptr (off:=0) (zgD _ _ _)
  .simp at hop
 case build t parts=>
  unfold yQ at hop;split at hop
  .rename_i ps hps;obtain⟨h1,rfl⟩:=zgf hop;obtain⟨q1,q2⟩:=zu (G:=G) (a:=a) (fun p hp=>hE p.2 Cv) hps;have:=Pj (P:=P) (w:=w) q1 q2 h1;have he:(parts.toList.map fun x=>(x.1,a.eval x.2)).toArray=parts.map fun(i,x)=>(i,a.eval x):=by
    apply nI;simp
   rw[he]at this;exact zgh h this
  .simp at hop
 case buildSlice t len parts=>
  unfold wH at hop;split at hop
  .rename_i ps hps;obtain⟨q1,q2⟩:=zu (G:=G) (a:=a) (fun p hp=>hE p.2 Cv) hps;have:=(GS (P:=P) (w:=w) q1 q2 hop).sim h;have he:(parts.toList.map fun x=>(x.1,a.eval x.2)).toArray=parts.map fun(i,x)=>(i,a.eval x):=by
    apply nI;simp
   rw[he]at this;exact uY this
  .simp at hop
 case load t x=>
  unfold wI at hop;split at hop
  .rename_i v hv;obtain⟨h1,rfl⟩:=zgf hop;exact zgh h (GI h (hE x fw _ hv) h1)
  .simp at hop
 case store t x y=>
  unfold yR at hop;split at hop
  .rename_i av vv ha hv;split at hop
   .rename_i H1 hs;simp only[di]at hop;obtain⟨rfl,rfl⟩:=hop;exact G5 (O0 h (hE x fw _ ha) (hE y fw _ hv) hs)
   .simp at hop
  .simp at hop
 case nilCheck x=>
  unfold yS at hop;split at hop
  .rename_i r off hv;simp only[di]at hop;obtain⟨rfl,rfl⟩:=hop;have hx:=hE x fw _ hv;refine uU h (v:=a.eval x) ?_ hx;simp only[execOp];generalize a.eval x=v at hx⊢;cases hx;rfl
  .rename_i cs hv;simp only[di]at hop;obtain⟨rfl,rfl⟩:=hop;have hx:=hE x fw _ hv;refine uU h (v:=a.eval x) ?_ hx;simp only[execOp];generalize a.eval x=v at hx⊢;cases hx;rfl
  .simp at hop
 case binOp op t x y yt=>
  unfold yT at hop;split at hop
  .rename_i xv yv hx hy;obtain⟨h1,rfl⟩:=zgf hop;exact zgh h (Pf (by rw[h.val];exact h.sym) (hE x fw _ hx) (hE y fw _ hy) h1)
  .simp at hop
 case unOp op t x=>
  unfold yU at hop;split at hop
  .rename_i xv hx;obtain⟨h1,rfl⟩:=zgf hop;exact zgh h (Pg (hE x fw _ hx) h1)
  .simp at hop
 case convert s d x=>
  unfold wJ at hop;split at hop
  .rename_i xv hx;obtain⟨h1,rfl⟩:=zgf hop;exact zgh h (PB h (hE x fw _ hx) h1)
  .simp at hop
 case makeFunc fn first captured=>
  unfold yV at hop;split at hop
  .rename_i f vs hfirst hvs;simp only[di]at hop;obtain⟨rfl,rfl⟩:=hop;have hf:first=#[]:=by apply nI;simpa using hfirst
   subst hf;have:=zx (G:=G) (a:=a) (fun x hx=>hE x (by simp[Op.operands];simpa using hx)) hvs;refine zgh h ⟨.func (.func f) #[] (captured.map a.eval),by simp[Instr.makeFunc],?_⟩;have he:captured.map a.eval=(captured.toList.map a.eval).toArray:=Cw;rw[he];exact .clo this.1 this.2
  .simp at hop
 case makeMap t r=>
  unfold wK at hop;split at hop
  .simp only[di]at hop;obtain⟨rfl,rfl⟩:=hop;exact uY ⟨.map (some w.heap.size),_,_,by simp[Instr.makeMap],.map (zgD _ _ _),OP h⟩
  .simp at hop
 case makeSlice t l c'=>
  unfold wL at hop;split at hop
  .rename_i lv cv hl hc;exact uY ((GT (hE l fw _ hl) (hE c' fw _ hc) hop).sim h)
  .simp at hop
 case slice t x lo hi mx=>
  unfold wM at hop;split at hop
  .rename_i xv l hh hx hl hi';obtain⟨h1,rfl⟩:=zgf hop;exact zgh h (Pn h (hE x fw _ hx) (G6 (fun y hy=>hE y (by simp[Op.operands]at *;simp[hy])) hl) (G6 (fun y hy=>hE y (by simp[Op.operands]at *;simp[hy])) hi') h1)
  .simp at hop
 case fieldAddr t x f=>
  unfold yW at hop;split at hop
  .rename_i xv hx;obtain⟨h1,rfl⟩:=zgf hop;exact zgh h (O1 (hE x fw _ hx) h1)
  .simp at hop
 case field t x f=>
  unfold yX at hop;split at hop
  .rename_i xv hx;obtain⟨h1,rfl⟩:=zgf hop;exact zgh h (O2 (hE x fw _ hx) h1)
  .simp at hop
 case indexAddr t x i=>
  unfold yY at hop;split at hop
  .rename_i xv iv hx hi;obtain⟨h1,rfl⟩:=zgf hop;exact zgh h (O3 (hE x fw _ hx) (hE i fw _ hi) h1)
  .simp at hop
 case index t x i=>
  unfold yZ at hop;split at hop
  .rename_i xv iv hx hi;obtain⟨h1,rfl⟩:=zgf hop;exact zgh h (O4 (hE x fw _ hx) (hE i fw _ hi) h1)
  .simp at hop
 case lookup t m k ok=>
  unfold wN at hop;split at hop
  .rename_i mv kv hm hk;obtain⟨h1,rfl⟩:=zgf hop;exact zgh h (Pw h (hE m fw _ hm) (hE k fw _ hk) h1)
  .simp at hop
 case mapUpdate t m k v=>
  unfold y0 at hop;split at hop
  .rename_i mv kv vv hm hk hv;split at hop
   .rename_i H1 hs;simp only[di]at hop;obtain⟨rfl,rfl⟩:=hop;exact G5 (Pz h (hE m fw _ hm) (hE k fw _ hk) (hE v fw _ hv) hs)
   .simp at hop
  .simp at hop
 case extract x i=>
  unfold y1 at hop;split at hop
  .rename_i xv hx;obtain⟨h1,rfl⟩:=zgf hop;exact zgh h (O5 (hE x fw _ hx) h1)
  .simp at hop
theorem PE(h:R B H w G){keep:Bool}{b:Builtin}{ts:Array TypeId}{ty:TypeId}{consts:Array Bool}{cs:List AV}{vs:List Value}{c:AV}(hv:cr G cs vs)(hb:oI P keep H b ts.toList cs=some (c,H')):
 tt P B H G w (builtin b ts ty consts vs.toArray) c H':=by
 unfold oI at hb;split at hb
 .split at hb
  .rename_i t u s x hts;have hts':ts=#[t,u]:=by apply nI;simpa using hts
   subst hts'
   match vs,hv with
   |[sv,xv],hv=>
    obtain⟨h1,h2⟩:=hv.of_cons;obtain⟨h3,_⟩:=h2.of_cons;exact uY (Pp h h1 h3 hb)
   |[],hv=>have:=hv.1;simp at this
   |[_],hv=>have:=hv.1;simp at this
   |_::_::_::_,hv=>have:=hv.1;simp at this
  .simp at hb
 .split at hb
  .rename_i t x hts;have hts':ts=#[t]:=by apply nI;simpa using hts
   subst hts';split at hb
   .rename_i v hl;simp only[di]at hb;obtain⟨rfl,rfl⟩:=hb
    match vs,hv with
    |[xv],hv=>
     obtain⟨h1,_⟩:=hv.of_cons;exact zgh h (Ps h h1 hl)
    |[],hv=>have:=hv.1;simp at this
    |_::_::_,hv=>have:=hv.1;simp at this
   .simp at hb
  .simp at hb
 .split at hb
  .rename_i x xs;split at hb
   .rename_i v hm;simp only[di]at hb;obtain⟨rfl,rfl⟩:=hb
    match vs,hv with
    |[],hv=>have:=hv.1;simp at this
    |xv::xvs,hv=>
     obtain⟨h1,h2⟩:=hv.of_cons;have:=CE (P:=P) (w:=w) h1 h2 hm;exact zgh h (by simpa [Builtin.max_]using this)
   .simp at hb
  .simp at hb
 .split at hb
  .rename_i x xs;split at hb
   .rename_i v hm;simp only[di]at hb;obtain⟨rfl,rfl⟩:=hb
    match vs,hv with
    |[],hv=>have:=hv.1;simp at this
    |xv::xvs,hv=>
     obtain⟨h1,h2⟩:=hv.of_cons;have:=CE (P:=P) (w:=w) h1 h2 hm;exact zgh h (by simpa [Builtin.min_]using this)
   .simp at hb
  .simp at hb
 .simp at hb
end
def CI:AX->Exit
 | .normal=>.normal
 | .exit id=>.exit id
 | .ret=>.ret
def kg(B:Bs)(N nx:Nat)(G:Gh)(w:World)(x:AX)(E':aG)(H':Hp):Exit->Act->World->Prop:=fun e a' w'=>
 e=CI x/\∃G',TR N G' E' a'/\Step B nx G w H' w' G'/\a'.defers=[]
structure Fit (P:Program):Prop where
 name:∀(f:FuncId) (fn:Func),P.funcs[f]?=some fn->fn.body.isSome=true->(fn.name == "runtime.NumGoroutine")=false
 mixed:P.follows .mixedOrders=true
structure Snd (P:Program) (B:Bs) (n:Nat) (ih:Task->Res):Prop where
 call:∀f args H r H',ih (.call f args H)=.val r H'->∀G w vs,R B H w G->cr G args vs ->
  (∃fn,P.funcs[f]?=some fn/\fn.body.isSome=true)/\Calls P f vs.toArray w (fun e w'=>∃v G',e=.returned v/\VR G' r v/\Step B H.next G w H' w' G')
 code:∀f N c E H x E' H',ih (.code f N c E H)=.done x E' H'->∀G w a,R B H w G->TR N G E a->a.defers=[]->Code.wp P c (kg B N H.next G w x E' H') a w
 loop:∀f N c E H x E' H',ih (.code f N (.loop c) E H)=.done x E' H'->∀G w a,R B H w G->TR N G E a->a.defers=[]->Code.rounds P c (kg B N H.next G w x E' H') n a w
theorem CJ{P:Program}{c:Code}{Q Q':Exit->Act->World->Prop}(h:∀e a w,Q e a w->Q' e a w):∀{n:Nat}{a:Act}{w:World},Code.rounds P c Q n a w->Code.rounds P c Q' n a w
 |0,_,_,hr=>hr
 |n+1,_,_,hr=>by
  rw[rounds_succ]at *;exact rW (fun e a w he=>by
   cases e with
   |normal=>exact CJ h he
   |_=>exact h _ _ _ he) hr
theorem kg.trans{B:Bs}{N nx:Nat}{G G':Gh}{w w':World}{H' H'':Hp}{x:AX}{E'':aG}(hs:Step B nx G w H' w' G'){e:Exit}{a:Act}{w'':World}(h:kg B N H'.next G' w' x E'' H'' e a w''):kg B N nx G w x E'' H'' e a w'':=by
 obtain⟨he,G2,h1,h2,h3⟩:=h;exact⟨he,G2,h1,hs.trans h2,h3⟩
def zy:=@kg.trans
section
variable {P:Program} {B:Bs} {G:Gh} {H H':Hp} {w:World}
theorem CK{N:Nat}{E:aG}{a:Act}(h:TR N G E a){x:Operand}{c:AV}(hc:zd0 E x=some c):VR G c (a.eval x):=by
 cases x with
 |tmp t=>simp only[zd0,aQ]at hc;subst hc;exact h.slots t
 |const v=>exact uS hc
 |global g=>simp[zd0]at hc
 |func f=>simp only[zd0,aQ]at hc;subst hc;exact .clo (vs:=[]) rfl aK
theorem TR.knows{N:Nat}{E:aG}{a:Act}(h:TR N G E a)(xs:Array Operand):tB G E a xs:=fun _ _ _ hc=>CK h hc
theorem PF{E:aG}{a:Act}{d:Nat}(h:VR G (E.at d) (a.tmps.getD d undef)):(match E.at d with|.bool b=>some b |_=>none)=(match a.tmps[d]? with|some (.bool b)=>some b |_=>none):=by
 rw[jh]at h;cases hd:a.tmps[d]? with
 |none=>
  rw[hd]at h;simp only[Option.getD_none,undef]at h;generalize E.at d=c at h;cases h;rfl
 |some v=>
  rw[hd]at h;simp only[cj]at h;generalize E.at d=c at h;cases h<;>rfl
theorem PG{E:aG}{a:Act}{ops:Array Oper}{j:Nat}(h:∀d,(ops[j]?).bind (·.dst)=some d->VR G (E.at d) (a.tmps.getD d undef)):y2 ops.toList E j=yielded ops a.tmps j:=by
 unfold y2 yielded;rw[tz];cases hd:(ops[j]?).bind (·.dst)with
 |none=>rfl
 |some d=>exact PF (h d hd)
theorem G7{E:aG}{a:Act}{ops:Array Oper}{o:Oper}(h:∀j b d,o.guard=some (j,b)->(ops[j]?).bind (·.dst)=some d->VR G (E.at d) (a.tmps.getD d undef)):zf6 ops.toList E o=Region.wanted o (yielded ops a.tmps):=by
 unfold zf6 Region.wanted;cases hg:o.guard with
 |none=>rfl
 |some p=>
  obtain⟨j,b⟩:=p;simp only[];rw[PG (fun d hd=>h j b d hg hd)];cases yielded ops a.tmps j with
  |none=>rfl
  |some b'=>cases b<;>cases b' <;>rfl
theorem zA(fit:Fit P){n:Nat}{ih:Task->Res}(hih:Snd P B n ih){f:FuncId}{E:aG}{a:Act}{o:Oper}{c:AV}(h:R B H w G)(hE:tB G E a o.op.operands)(hop:zfk P B.cfg ih f E H o.op=.val c H')
 {K:Act->World->Prop}{Q:Exit->Act->World->Prop} (hK:∀v w' G',VR G' c v->Step B H.next G w H' w' G'->K (a.put o.dst v) w'):o.wp P a w K Q:=by
 have hsim:∀s:Sem Next,tt P B H G w s c H'->execOp a.eval o=s->o.wp P a w K Q:=fun s hs he=>by
  obtain⟨m,w',G',v,h1,h2,h3,h4⟩:=hs;unfold Oper.wp;rw[he,h1];rcases h2 with rfl|⟨rfl,rfl⟩
  .exact hK v w' G' h3 h4
  .exact hK undef w' G' h3 h4
 unfold zfk at hop;split at hop
 .rename_i cl hcl;unfold qB at hop;split at hop
  .rename_i g hg;split at hop
   .rename_i k cap vs hgv hvs;have hE':tB G E a cl.operands:=by rw[hcl]at hE;exact hE
    have hgr:=hE' g (by simp[Call.operands,hg]) _ hgv;have hargs:=zx (G:=G) (a:=a) (fun x hx=>hE' x (by simp[Call.operands,hg];exact .inr zm)) hvs;generalize hge:a.eval g=gv at hgr;cases hgr with
    |clo hl hv=>
     rename_i capvs;have hall:=hargs.append (G:=G) ⟨hl,hv⟩;obtain⟨⟨fn,hfn,hbody⟩,hcalls⟩:=hih.call _ _ _ _ _ hop G w _ h hall;have hname:=fit.name _ _ hfn hbody;unfold Oper.wp;have hrun:(execOp a.eval o).run P w=.ok (.enter k ((cl.args.toList.map a.eval)++capvs).toArray) w:=by
      have hargs':cl.args.map a.eval=(cl.args.toList.map a.eval).toArray:=Cw;unfold execOp;rw[hcl];simp only[fk,resolve,hg,hge,Deferred.ofValue,jK,fu,invoke,callFunc,run_program,hfn,hname];simp only[dS,bU];have hb:fn.body.isNone=false:=by cases hb:fn.body<;>simp_all
      rw[hb];simp[hargs']
     rw[hrun];show Calls P k _ w _;refine hcalls.mono fun e w' hr=>?_;obtain⟨v,G',rfl,h1,h2⟩:=hr;exact hK v w' G' h1 h2
   .simp at hop
  .rename_i b hg;split at hop
   .rename_i vs hvs;split at hop
    .rename_i v H1 hb;simp only[Res.val.injEq]at hop;obtain⟨rfl,rfl⟩:=hop;have hE':tB G E a cl.operands:=by rw[hcl]at hE;exact hE
     have hargs:=zx (G:=G) (a:=a) (fun x hx=>hE' x (by simp[Call.operands,hg];simpa using hx)) hvs;have hs:=PE (ty:=o.type) (consts:=cl.args.map fun|.const _=>true |_=>false) h hargs hb;refine hsim _ hs ?_;have hargs':cl.args.map a.eval=(cl.args.toList.map a.eval).toArray:=Cw;unfold execOp;rw[hcl];simp only[resolve,hg,hargs'];rfl
    .simp at hop
   .simp at hop
  .simp at hop
 .rename_i op hne;unfold zfM at hop;split at hop
  .rename_i v H1 ho;simp only[Res.val.injEq]at hop;obtain⟨rfl,rfl⟩:=hop;exact hsim _ (PD h hE ho) rfl
  .simp at hop
theorem CL(fit:Fit P){n:Nat}{ih:Task->Res}(hih:Snd P B n ih){f N:Nat}{ops:Array Oper}:∀(l:List Oper) {E E':aG}{H:Hp}{x:AX}{a:Act}{w:World}{G:Gh}{Q:Exit->Act->World->Prop},js P B.cfg ih f N ops.toList l E H=.done x E' H' ->
 R B H w G->TR N G E a->a.defers=[]->(∀e a' w',kg B N H.next G w x E' H' e a' w'->Q e a' w')->wpList P ops Q l a w
 |[],E,E',H,x,a,w,G,Q,hr,h,ht,hd,hQ=>by
  simp only[js,Res.done.injEq]at hr;obtain⟨rfl,rfl,rfl⟩:=hr;exact hQ _ _ _ ⟨rfl,G,ht,kI h,hd⟩
 |o::l,E,E',H,x,a,w,G,Q,hr,h,ht,hd,hQ=>by
  have hrec:∀E H,(List.rec (motive:=fun _=>aG->Hp->Res) (fun E H=>.done .normal E H)
   (fun o _ go E H=>match zf6 ops.toList E o with
     |true=>match zfk P B.cfg ih f E H o.op with
      | .val v H=>zga go H (fD N E o.dst v)
      |_=>.fail
     |false=>zga go H (fD N E o.dst zff)) l E H:Res)=js P B.cfg ih f N ops.toList l E H:=fun _ _=>rfl
  have hstep:js P B.cfg ih f N ops.toList (o::l) E H=match zf6 ops.toList E o with
   |true=>match zfk P B.cfg ih f E H o.op with
    | .val v H=>zga (js P B.cfg ih f N ops.toList l) H (fD N E o.dst v)
    |_=>.fail
   |false=>zga (js P B.cfg ih f N ops.toList l) H (fD N E o.dst zff):=rfl
  rw[hstep]at hr;have hw:=G7 (G:=G) (E:=E) (a:=a) (ops:=ops) (o:=o) (fun _ _ d _ _=>ht.slots d);have hdput:∀dst v,(a.put dst v).defers=[]:=fun dst v=>by cases dst<;>exact hd
  cases hwa:zf6 ops.toList E o with
  |true=>
   rw[hwa]at hr hw;simp only[]at hr;split at hr
   .rename_i v H1 hop;cases hp:fD N E o.dst v with
    |none=>rw[hp]at hr;simp[zga]at hr
    |some E1=>
     rw[hp]at hr;simp only[zga]at hr;unfold wpList;rw[aE hw.symm];refine .inl (zA fit hih h (ht.knows _) hop fun v' w' G' hv hst=>?_);have ht':TR N G' E1 (a.put o.dst v'):=(ht.mono hst.ext).put hv hp;exact CL fit hih l hr hst.r ht' (hdput _ _) (fun e a w he=>hQ _ _ _ (zy hst he))
   .simp at hr
  |false=>
   rw[hwa]at hr hw;simp only[]at hr;cases hp:fD N E o.dst zff with
   |none=>rw[hp]at hr;simp[zga]at hr
   |some E1=>
    rw[hp]at hr;simp only[zga]at hr;unfold wpList;rw[ah (by rw[<-hw];simp)];exact CL fit hih l hr h (ht.put (wV G) hp) (hdput _ _) hQ
end
section
variable {P:Program} {B:Bs} {G:Gh} {H H':Hp} {w:World} {cfg:Cfg}
theorem Sx.beq_eq:∀{a b:Sx},Sx.beq a b=true->a=b
 | .var i,b,h=>by
   cases b<;>simp only[Sx.beq,dS]at h;rw[iV h]
 | .lit i,b,h=>by
   cases b<;>simp only[Sx.beq,dS,mE]at h;rw[h]
 | .bin o k x y,b,h=>by
   cases b<;>simp only[Sx.beq,dS,cJ,jt]at h;obtain⟨⟨⟨rfl,rfl⟩,h1⟩,h2⟩:=h;rw[Sx.beq_eq h1,Sx.beq_eq h2]
 | .conv k x,b,h=>by
   cases b<;>simp only[Sx.beq,dS,cJ,jt]at h;obtain⟨rfl,h1⟩:=h;rw[Sx.beq_eq h1]
mutual
theorem AV.beq_eq:∀{a b:AV},AV.beq a b=true->a=b
 | .int k a,b,h=>by
   cases b<;>simp only[AV.beq,cJ,jt,mE,dS]at h;obtain⟨rfl,rfl⟩:=h;rfl
 | .sx k a,b,h=>by
   cases b<;>simp only[AV.beq,cJ,jt,dS]at h;obtain⟨rfl,h1⟩:=h;rw[Sx.beq_eq h1]
 | .bool a,b,h=>by
   cases b<;>simp only[AV.beq,mE,dS]at h;subst h;rfl
 | .str a,b,h=>by
   cases b<;>simp only[AV.beq,mE,dS]at h;subst h;rfl
 | .nilP,b,h=>by cases b<;>simp only[AV.beq,dS]at h;rfl
 | .nilM,b,h=>by cases b<;>simp only[AV.beq,dS]at h;rfl
 | .nilF,b,h=>by cases b<;>simp only[AV.beq,dS]at h;rfl
 | .nilS,b,h=>by cases b<;>simp only[AV.beq,dS]at h;rfl
 | .ptr r o,b,h=>by
   cases b<;>simp only[AV.beq,cJ,dS]at h;obtain⟨h1,h2⟩:=h;rw[iV h1,iV h2]
 | .iptr a,b,h=>by
   cases b<;>simp only[AV.beq,dS]at h;rw[zgv h]
 | .sl r o l z,b,h=>by
   cases b<;>simp only[AV.beq,cJ,dS]at h;obtain⟨⟨⟨h1,h2⟩,h3⟩,h4⟩:=h;rw[iV h1,iV h2,iV h3,iV h4]
 | .lst a,b,h=>by
   cases b<;>simp only[AV.beq,dS]at h;rw[G8 h]
 | .map r,b,h=>by
   cases b<;>simp only[AV.beq,dS]at h;rw[iV h]
 | .clo f a,b,h=>by
   cases b<;>simp only[AV.beq,cJ,dS]at h;rw[iV h.1,zgv h.2]
 | .agg a,b,h=>by
   cases b<;>simp only[AV.beq,dS]at h;rw[zgv h]
 | .tup a,b,h=>by
   cases b<;>simp only[AV.beq,dS]at h;rw[zgv h]
theorem zgv:∀{a b:List AV},j7 a b=true->a=b
 |[],b,h=>by cases b<;>simp only[j7,dS]at h;rfl
 |a::x,b,h=>by
  cases b<;>simp only[j7,cJ,dS]at h;rw[AV.beq_eq h.1,zgv h.2]
theorem G8:∀{a b:List (List AV)},tg a b=true->a=b
 |[],b,h=>by cases b<;>simp only[tg,dS]at h;rfl
 |a::x,b,h=>by
  cases b<;>simp only[tg,cJ,dS]at h;rw[zgv h.1,G8 h.2]
end
theorem G9{α β:Type}:∀{a b:List (α×β)},a.map (·.1)=b.map (·.1)->a.map (·.2)=b.map (·.2)->a=b
 |[],b,h,_=>by cases b<;>simp at h;rfl
 |(x,y)::a,b,h,h'=>by
  cases b with
  |nil=>simp at h
  |cons c b=>
   obtain⟨u,v⟩:=c;simp only[eF,eD]at h h';obtain⟨rfl,h⟩:=h;obtain⟨rfl,h'⟩:=h';rw[G9 h h']
theorem HB.beq_eq{a b:HB}(h:HB.beq a b=true):a=b:=by
 cases a<;>cases b<;>simp only[HB.beq,cJ,dS,mE]at h
 .obtain⟨⟨h1,h2⟩,h3⟩:=h;rw[zgv h1,iV h2,h3]
 .rw[G9 (zgv h.1) (zgv h.2)]
def mH(P:Program)(cfg:Cfg)(ih:Task->Res)(f N:Nat)(all:List Oper):List Rec->List Oper->aG->Hp->aG->Hp->Prop
 |[],[],E,H,E',H'=>E=E'/\H=H'
 |r::rs,o::l,E,H,E',H'=>r.o=o/\r.E=E/\r.H=H/\zf6 all E o=r.did/\(r.did=true->zfk P cfg ih f E H o.op=.val r.val r.H')/\(r.did=false->r.val=zff/\r.H'=H) /\
  ∃E1,fD N E o.dst r.val=some E1/\mH P cfg ih f N all rs l E1 r.H' E' H'
 |_,_,_,_,_,_=>False
theorem xe{ih:Task->Res}{f N:Nat}{all:List Oper}:∀{l:List Oper}{E E':aG}{H H':Hp}{rs:List Rec},jd P cfg ih f N all l E H=.done E' H' rs->mH P cfg ih f N all rs l E H E' H'
 |[],E,E',H,H',rs,h=>by
  simp only[jd,ResD.done.injEq]at h;obtain⟨rfl,rfl,rfl⟩:=h;exact⟨rfl,rfl⟩
 |o::l,E,E',H,H',rs,h=>by
  simp only[jd]at h;cases hw:zf6 all E o with
  |true=>
   rw[hw]at h;simp only[]at h;cases hop:zfk P cfg ih f E H o.op with
   |val v H1=>
    rw[hop]at h;simp only[]at h;cases hp:fD N E o.dst v with
    |none=>rw[hp]at h;simp[zgq,nA]at h
    |some E1=>
     rw[hp]at h;simp only[zgq]at h;cases hr:jd P cfg ih f N all l E1 H1 with
     |fail=>rw[hr]at h;simp[nA]at h
     |done E2 H2 rs2=>
      rw[hr]at h;simp only[nA,ResD.done.injEq]at h;obtain⟨rfl,rfl,rfl⟩:=h;exact⟨rfl,rfl,rfl,hw,fun _=>hop,aK,E1,hp,xe hr⟩
   |done _ _ _=>rw[hop]at h;simp at h
   |fail=>rw[hop]at h;simp at h
  |false=>
   rw[hw]at h;simp only[]at h;cases hp:fD N E o.dst zff with
   |none=>rw[hp]at h;simp[zgq,nA]at h
   |some E1=>
    rw[hp]at h;simp only[zgq]at h;cases hr:jd P cfg ih f N all l E1 H with
    |fail=>rw[hr]at h;simp[nA]at h
    |done E2 H2 rs2=>
     rw[hr]at h;simp only[nA,ResD.done.injEq]at h;obtain⟨rfl,rfl,rfl⟩:=h;exact⟨rfl,rfl,rfl,hw,aK,fun _=>⟨rfl,rfl⟩,E1,hp,xe hr⟩
def zfN(rs:List Rec)(E':aG)(e:Nat):aG:=match rs[e]? with
 |some r=>r.E
 |none=>E'
theorem CM{ih:Task->Res}{f N:Nat}{all:List Oper}:∀{rs:List Rec}{l:List Oper}{E E':aG}{H H':Hp},mH P cfg ih f N all rs l E H E' H'->rs.length=l.length
 |[],[],_,_,_,_,_=>rfl
 |[],_::_,_,_,_,_,h=>by simp[mH]at h
 |_::_,[],_,_,_,_,h=>by simp[mH]at h
 |r::rs,o::l,E,E',H,H',h=>by
  obtain⟨_,_,_,_,_,_,E1,_,h⟩:=h;simp[CM h]
theorem CN{ih:Task->Res}{f N:Nat}{all:List Oper}{rs:List Rec}{l:List Oper}{E E':aG}{H H':Hp}(h:mH P cfg ih f N all rs l E H E' H'):zfN rs E' 0=E/\zeI rs H' 0=H:=by
 cases rs with
 |nil=>
  cases l with
  |nil=>obtain⟨rfl,rfl⟩:=h;exact⟨rfl,rfl⟩
  |cons o l=>simp[mH]at h
 |cons r rs=>
  cases l with
  |nil=>simp[mH]at h
  |cons o l=>
   obtain⟨_,h1,h2,_⟩:=h;exact⟨by simp[zfN,h1],by simp[zeI,h2]⟩
structure AtD (P:Program) (cfg:Cfg) (ih:Task->Res) (f N:Nat) (all:List Oper) (o:Oper) (r:Rec) (E E1:aG) (H H1:Hp):Prop where
 eo:r.o=o
 eE:r.E=E
 eH:r.H=H
 want:zf6 all E o=r.did
 yes:r.did=true->zfk P cfg ih f E H o.op=.val r.val H1
 no:r.did=false->r.val=zff/\H1=H
 put:fD N E o.dst r.val=some E1
 eH':r.H'=H1
theorem tC{ih:Task->Res}{f N:Nat}{all:List Oper}:∀{rs:List Rec}{l:List Oper}{E E':aG}{H H':Hp},mH P cfg ih f N all rs l E H E' H'->∀{i:Nat}{r:Rec},rs[i]?=some r ->
 ∃o,l[i]?=some o/\AtD P cfg ih f N all o r (zfN rs E' i) (zfN rs E' (i+1)) (zeI rs H' i) (zeI rs H' (i+1))
 |[],_,_,_,_,_,_,i,r,hr=>by simp at hr
 |r::rs,[],_,_,_,_,h,_,_,_=>by simp[mH]at h
 |r::rs,o::l,E,E',H,H',h,i,r',hr=>by
  obtain⟨h1,h2,h3,h4,h5,h6,E1,h7,h8⟩:=h;obtain⟨z1,z2⟩:=CN h8;cases i with
  |zero=>
   simp at hr;subst hr;have e1:zfN (r::rs) E' 1=E1:=by rw[<-z1];simp[zfN]
   have e2:zeI (r::rs) H' 1=r.H':=by rw[<-z2];simp[zeI]
   have e3:zfN (r::rs) E' 0=E:=by simp[zfN,h2]
   have e4:zeI (r::rs) H' 0=H:=by simp[zeI,h3]
   refine⟨o,rfl,?_⟩;rw[e1,e2,e3,e4];exact⟨h1,h2,h3,h4,h5,fun hn=>⟨(h6 hn).1,(h6 hn).2⟩,h7,rfl⟩
  |succ i=>
   obtain⟨o',g1,g2⟩:=tC h8 (i:=i) (r:=r') (by simpa using hr);have e1:∀k,zfN (r::rs) E' (k+1)=zfN rs E' k:=fun k=>by simp[zfN]
   have e2:∀k,zeI (r::rs) H' (k+1)=zeI rs H' k:=fun k=>by simp[zeI]
   refine⟨o',by simpa using g1,?_⟩;rw[e1,e1,e2,e2];exact g2
def qL(op:Op):Bool:=match jc op with|.calm=>true |_=>false
def pR(op:Op):Bool:=match jc op with|.read=>true |_=>false
theorem PH{D:BinOp->Sx->Sx->Option Bool}{E:aG}{op:Op}(hk:qL op=true):∃u,∀X,dD P D E X op=ret X u:=by
 cases op<;>simp only[qL,jc,dS]at hk<;>simp only[dD]
 case move x=>exact⟨_,fun X=>rfl⟩
 case assign x=>exact⟨_,fun X=>rfl⟩
 case pick c a b=>
  unfold yP;cases zd0 E c with
  |none=>exact⟨none,fun X=>rfl⟩
  |some v=>cases v with
   |bool t=>cases t<;>exact⟨_,fun X=>rfl⟩
   |_=>exact⟨none,fun X=>rfl⟩
 case build t parts=>
  unfold yQ;cases zgd E parts.toList with
  |none=>exact⟨none,fun X=>rfl⟩
  |some ps=>exact⟨_,fun X=>rfl⟩
 case nilCheck x=>
  unfold yS;cases zd0 E x with
  |none=>exact⟨none,fun X=>rfl⟩
  |some v=>cases v with
   |ptr r o=>exact⟨some (.ptr r o),fun X=>rfl⟩
   |iptr cs=>exact⟨some (.iptr cs),fun X=>rfl⟩
   |_=>exact⟨none,fun X=>rfl⟩
 case binOp op t x y yt=>
  unfold yT;cases zd0 E x with
  |none=>exact⟨none,fun X=>rfl⟩
  |some v=>cases zd0 E y with
   |none=>exact⟨none,fun X=>rfl⟩
   |some u=>exact⟨_,fun X=>rfl⟩
 case unOp op t x=>
  unfold yU;cases zd0 E x with
  |none=>exact⟨none,fun X=>rfl⟩
  |some v=>exact⟨_,fun X=>rfl⟩
 case makeFunc fn first captured=>
  unfold yV;cases fn with
  |func f=>
   cases first.toList with
   |nil=>cases zfV E captured.toList with
    |none=>exact⟨none,fun X=>rfl⟩
    |some vs=>exact⟨some (.clo f vs),fun X=>rfl⟩
   |cons _ _=>exact⟨none,fun X=>rfl⟩
  |_=>exact⟨none,fun X=>rfl⟩
 case fieldAddr t x f=>
  unfold yW;cases zd0 E x with
  |none=>exact⟨none,fun X=>rfl⟩
  |some v=>exact⟨_,fun X=>rfl⟩
 case field t x f=>
  unfold yX;cases zd0 E x with
  |none=>exact⟨none,fun X=>rfl⟩
  |some v=>exact⟨_,fun X=>rfl⟩
 case indexAddr t x i=>
  unfold yY;cases zd0 E x with
  |none=>exact⟨none,fun X=>rfl⟩
  |some v=>cases zd0 E i with
   |none=>exact⟨none,fun X=>rfl⟩
   |some u=>exact⟨_,fun X=>rfl⟩
 case index t x i=>
  unfold yZ;cases zd0 E x with
  |none=>exact⟨none,fun X=>rfl⟩
  |some v=>cases zd0 E i with
   |none=>exact⟨none,fun X=>rfl⟩
   |some u=>exact⟨_,fun X=>rfl⟩
 case extract x i=>
  unfold y1;cases zd0 E x with
  |none=>exact⟨none,fun X=>rfl⟩
  |some v=>exact⟨_,fun X=>rfl⟩
 all_goals exact⟨none,fun X=>rfl⟩
theorem CO{D:BinOp->Sx->Sx->Option Bool}{E:aG}{op:Op}{v:AV}(hk:qL op=true)(h:dD P D E H op=some (v,H')):H'=H/\∀X,dD P D E X op=some (v,X):=by
 obtain⟨u,hu⟩:=PH (P:=P) (D:=D) (E:=E) hk;rw[hu]at h;obtain⟨rfl,rfl⟩:=zgf h;exact⟨rfl,fun X=>by rw[hu];rfl⟩
theorem CP{ih:Task->Res}{f:FuncId}{E:aG}{op:Op}{v:AV}(hk:pR op=true)(h:zfk P cfg ih f E H op=.val v H'):H'=H:=by
 cases op<;>simp only[pR,jc,dS]at hk<;>simp only[zfk,dD]at h
 case load t x=>
  unfold wI at h;split at h
  .cases hx:zfC P H t ‹AV› <;>rw[hx]at h<;>simp[ret,zfM]at h;exact h.2.symm
  .simp[zfM]at h
 case slice t x lo hi mx=>
  unfold wM at h;split at h
  .rename_i xv lv hv _ _ _;cases hx:my P H t xv lv hv<;>rw[hx]at h<;>simp[ret,zfM]at h;exact h.2.symm
  .simp[zfM]at h
 case convert s d x=>
  unfold wJ at h;split at h
  .cases hx:jq P H s d ‹AV› <;>rw[hx]at h<;>simp[ret,zfM]at h;exact h.2.symm
  .simp[zfM]at h
 case lookup t m k ok=>
  unfold wN at h;split at h
  .rename_i mv kv _ _;cases hx:zge P H t mv kv ok<;>rw[hx]at h<;>simp[ret,zfM]at h;exact h.2.symm
  .simp[zfM]at h
 case call c=>
  unfold qB at h;cases hc:c.callee with
  |value g=>rw[hc]at hk;simp at hk
  |invoke g m=>rw[hc]at hk;simp at hk
  |builtin b=>
   rw[hc]at hk h;simp only[]at h;split at h
   .rename_i vs _;cases b<;>simp only[dS]at hk<;>simp only[oI]at h;all_goals
     split at h
     .rename_i v1 H1 hb;simp only[Res.val.injEq]at h;obtain⟨rfl,rfl⟩:=h;split at hb
      .split at hb
       .simp only[di]at hb;exact hb.2.symm
       .simp at hb
      .simp at hb
     .simp at h
   .simp at h
theorem PI{D:BinOp->Sx->Sx->Option Bool}{E:aG}{o:Oper}{v:AV}(hk:rP o=true)(h:dD P D E H o.op=some (v,H')):∃blk,H'=H.alloc blk:=by
 obtain⟨dst,op,ty,pos,after,guard⟩:=o;simp only[]at h;cases op<;>simp only[rP,jc,dS]at hk<;>simp only[dD,reduceCtorEq]at h
 case alloc t=>
  unfold wF at h;split at h
  .simp only[di]at h;exact⟨_,h.2.symm⟩
  .simp at h
 case box t x=>
  unfold wG at h;split at h
  .simp only[di]at h;exact⟨_,h.2.symm⟩
  .simp at h
 case buildSlice t len parts=>
  unfold wH at h;split at h
  .unfold zfn at h;(repeat' split at h)<;>first|(simp only[di]at h;exact⟨_,h.2.symm⟩)|simp at h
  .simp at h
 case makeMap t r=>
  unfold wK at h;split at h
  .simp only[di]at h;exact⟨_,h.2.symm⟩
  .simp at h
 case makeSlice t l c=>
  unfold wL at h;split at h
  .unfold zf9 at h;(repeat' split at h)<;>first|(simp only[di]at h;exact⟨_,h.2.symm⟩)|simp at h
  .simp at h
theorem tD{ih:Task->Res}{f:FuncId}{E:aG}{op:Op}{v:AV}(hn:∀c,op≠.call c):zfk P cfg ih f E H op=.val v H'↔dD P cfg.dec E H op=some (v,H'):=by
 have:zfk P cfg ih f E H op=zfM (dD P cfg.dec E H op):=by
  unfold zfk;split
  .exact(hn _ rfl).elim
  .rfl
 rw[this];cases dD P cfg.dec E H op with
 |none=>simp[zfM]
 |some p=>obtain⟨a,b⟩:=p;simp[zfM]
theorem PJ{ih:Task->Res}{f:FuncId}{E:aG}{o:Oper}{v:AV}(hk:oJ o=false)(h:zfk P cfg ih f E H o.op=.val v H'):H'=H\/∃blk,H'=H.alloc blk:=by
 cases hkind:jc o.op with
 |act=>simp[oJ,hkind]at hk
 |read=>exact .inl (CP (by simp[pR,hkind]) h)
 |calm=>
  have hn:∀c,o.op≠.call c:=fun c e=>by
   rw[e]at hkind;simp only[jc]at hkind;split at hkind<;>simp at hkind
  exact .inl (CO (P:=P) (by simp[qL,hkind]) ((tD hn).1 h)).1
 |make=>
  have hn:∀c,o.op≠.call c:=fun c e=>by
   rw[e]at hkind;simp only[jc]at hkind;split at hkind<;>simp at hkind
  exact .inr (PI (by simp[rP,hkind]) ((tD hn).1 h))
end
end Go.Ab
