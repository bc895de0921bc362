/- Lemmas for the last file. -/
import Derived.Orders
import Derived.Test.YtbflaciihaijgaaGreatUEB
set_option linter.all false
set_option maxHeartbeats 32000000
namespace Go.Ab
set_option maxRecDepth 20000
open Go
abbrev qO:=Array Bool
abbrev qA:=List Int
variable{qn:Prop}
def yB(h:qn:=by simpa using O):=h
def FR(h:qn:=by simp[Builtin.lenOf]):=h
def FT(h:qn:=by rw[List.length_take];omega):=h
def Cn(h:qn:=by simp[Builtin.len_,el hd,goInt]):=h
def gh(h:qn:=by simp[Op.operands]):=h
def Pk(h:qn:=by simp only[Op.operands,List.mem_toArray,List.mem_map];grind):=h
def lV(h:qn:=by simpa using h):=h
def oF(h:qn:=by rw[e]):=h
def rD(h:qn:=by simp at h):=h
def J7(h:qn:=by unfold Ab.clash;simp_all):=h
def pF:=@List.flatten_cons
def Ai:=@Nat.succ_mul
def J8:=@Go.run_firstCells_some
def bT:=@Bool.and_eq_true
def FU:=@Nat.le_of_ble_eq_true
def dV:=@Bool.false_eq_true
def FV:=@List.drop_append_of_le_length
def Co:=@List.eq_nil_of_length_eq_zero
def J9:=@List.all_append
def kE:=@decide_eq_true_eq
def w1:=@beq_iff_eq
def FW:=@Nat.sub_zero
def bH:=@Option.getD_some
def oG:=@List.getElem?_set
def Ka:=@Array.getElem?_toList
def eX:=@List.cons.injEq
def lW:=@Nat.mul_one
def so:=@List.mem_map
def w6:=@Go.Code.wp_mono
def tm:=@Nat.eq_of_beq_eq_true
def eC:=@List.map_cons
def eJ:=@List.mem_cons
def uk:=@List.mem_append
def js:=@List.all_eq_true
def tq:=@List.mem_range
def FX:=@List.mem_filter
def w7:=@Array.getElem?_eq_getElem
def ul:=@Bool.not_eq_true'
def nU:=@Bool.or_eq_true
def cV:=@List.mem_of_getElem?
def FY:=@Nat.lt_trichotomy
def Cp:=@List.eq_nil_iff_forall_not_mem
def lX:=And.intro @bT @kE
end Go.Ab
namespace Go.Ab
set_option maxRecDepth 20000
open Go Go.RowKit
variable{cs:qB}{vs:qL}{s n b O Z N f i:Nat}{t u e V:TypeId}{x c m y k v:AV}{I j:Value}{L d:TypeDesc}{a:Act}{w' w w0:World}{Y G G0:Gh}{o:Oper}{E E0 E':aw}{D:BinOp->Sx->Sx->qK}{H':Hp}{ops:qQ}{ih:zd5->Res}{K:Act->World->Prop}{Q:Exit->Act->World->Prop}{C l:qE}{rs:List Rec}{z:qO}
section
variable {P:Program} {B:Bs} {G:Gh} {H H':Hp} {w:World}
theorem cq.ce(h:cq G cs vs)(I:cs.all AV.one=true):∀v∈vs,v.oneCell'=true:=fun v j=>by
 obtain⟨i,Z,rfl⟩:=z9 j;have O:i<cs.length:=by rw[h.1];exact Z
 rw[(h.2 i _ _ (aX O) (aX Z)).ce];simp_all
theorem ZP{xs:List qB}(V:∀(i:Nat) (Z:qB),xs[i]?=some Z->Z.length=s):xs.flatten.length=xs.length*s /\
 ∀(i j:Nat) (c:AV),j<s->xs.flatten[i*s+j]?=some c->∃Z,xs[i]?=some Z/\Z[j]?=some c:=by
 induction xs with
 |nil=>simp_all
 |cons Z xs ih=>
  have hr:=V 0 Z rfl;obtain⟨Y,m⟩:=ih (fun i r O=>V (i+1) r yB);refine⟨cU,fun i j c I hc=>?_⟩;rw[pF]at hc;cases i with
  |zero=>
   grind
  |succ i=>
   rw[tf (by rw[hr,Ai];omega)]at hc;rw[hr,show(i+1)*s+j-s=i*s+j by rw[Ai];omega]at hc;simp_all
theorem ZQ{k:Nat}(h:k<n*s):k/s<n/\k%s<s/\k=k/s*s+k%s:=by
 have V:0<s:=by
  rcases Nat.eq_zero_or_pos s with e|e
  .subst e;omega
  .exact e
 refine⟨(Nat.div_lt_iff_lt_mul V).2 h,Nat.mod_lt _ V,?_⟩;have:=Nat.div_add_mod k s
 grind
def ZR(h:R B H w G){lo J:qI}{O Z:qW}(C:VR G x I)(m:yA G lo O)(j:yA G J Z)(V:sc P H t x lo J=some c):
 ∃v,(Instr.sliceAt t I O Z none).run P w=.ok v w/\VR G c v:=by
 unfold sc at V;split at V
 .rename_i r Y;split at V
  .rename_i n e cs imm tip hd hg;split at V
   .rename_i z l h' hz bl bh;split at V
    .rename_i hc;obtain⟨h1,h2,h3⟩:=hc;cases C with
     |ptr hr=>
      rename_i b o x;have hf:=h.b9 _ _ _ _ _ _ _ hr hg;have hb:=J5 (P:=P) (w:=w) (cap:=n) m j bl bh h1 h2 (aG _) false;have L:(Instr.sliceAt t (.pointer (some ⟨b,o+Y,none⟩)) O Z none).run P w=.ok (.slice (some (if n=l then ⟨b,o+Y,none⟩else ⟨b,o+Y+l*z,none⟩)) (h'-l) (n-l)) w:=by
       simp only[Instr.sliceAt,gS,el hd,gT];simp[Instr.sureAddr,hb,mE hz,rC]
      split at V
      .rename_i e1;simp only[am]at V;subst V;subst e1;rw[rz]at L;exact⟨_,L,.cL _ _⟩
      .rename_i hne;simp only[am]at V;subst V;rw[ah ac]at L;refine⟨_,L,?_⟩;rw[lS];refine .sl hr ac ?_;have e3:(n-l)*z+l*z=n*z:=JT;omega
    .simp at V
   .simp at V
  .simp at V
 .exact ZN C m j V
theorem Kg(h:R B H w G){xv:Value}{l:qB}(hx:VR G x xv)(V:gg H s x=some (n,l)):
 ∃nv,cq G l nv/\nv.length=n*s/\(∀L,(Builtin.lenOf xv).run P L=.ok n L)/\(∀L,(∀a,L.cell? a=w.cell? a)->(Builtin.firstCells s n xv).run P L=.ok nv.toArray L):=by
 unfold gg at V;split at V
 .rename_i r off O z;cases hx with
  |sl hr hl hc=>
   rename_i b o x J;split at V
   .rename_i cs imm tip hg;simp only[]at V;split at V
    .rename_i hlen;simp only[dB]at V;obtain⟨rfl,rfl⟩:=V;obtain⟨vs,h1,h2⟩:=(((h.cells _ _ _ _ _ _ _ hr hg).drop off).take (O*s)).list;have Y:vs.length=O*s:=by rw[<-h1.1];exact hlen
     refine⟨vs,h1,Y,fun L=>FR,fun L hw=>?_⟩;exact J8 L s O _ O J vs Y (fun j v hj=>by rw[hw,rC];exact h2 j v hj)
    .simp at V
   .simp at V
 .rename_i I;split at V
  .rename_i hall;simp only[dB]at V;obtain⟨rfl,rfl⟩:=V;have C:∀(i:Nat) (Z:qB),I[i]?=some Z->Z.length=s:=fun i Z hi=>by
    grind
   obtain⟨hfl,hfg⟩:=ZP C;cases hx with
   |cL a J=>
    refine⟨[],ti G,aB,fun L=>FR,fun L hw=>?_⟩;cases a with
    |none=>simp[Builtin.firstCells]
    |some a=>
     simp[Builtin.firstCells];rfl
   |aE vs hz hF hv hcap=>
    rename_i b o J z;have hzs:I.length=0\/z=s:=by
     cases I with
     |nil=>exact .inl rfl
     |cons Z I=>exact .inr (by rw[<-hz 0 Z rfl,C 0 Z rfl])
    have hh:kR G w b o I.flatten:=fun k c hk=>by
     have m:k<I.length*s:=by rw[<-hfl];exact(gR.1 hk).1
     obtain⟨d1,d2,d3⟩:=ZQ m;have hz':z=s:=by
      rcases hzs with e|e
      .rw[e]at m;omega
      .exact e
     subst hz';obtain⟨Z,g1,g2⟩:=hfg (k/z) (k%z) c d2 (by rw[<-d3];exact hk);refine⟨vs (k/z) (k%z),?_,hv _ _ Z c g1 g2⟩;have:=h.dv _ _ _ (hF (k/z) (k%z) d1 d2)
     grind
    obtain⟨nv,h1,h2⟩:=hh.list;have Y:nv.length=I.length*s:=by rw[<-h1.1];exact hfl
    refine⟨nv,h1,Y,fun L=>FR,fun L hw=>?_⟩;exact J8 L s I.length _ I.length J nv Y (fun j v hj=>by rw[hw,rC];exact h2 j v hj)
  .simp at V
 .simp only[dB]at V;obtain⟨rfl,rfl⟩:=V;cases hx;exact⟨[],ti G,aB,fun L=>FR,fun L hw=>by simp[Builtin.firstCells]⟩
 .rename_i b;split at V
  .rename_i e;subst e;simp only[dB]at V;obtain⟨rfl,rfl⟩:=V;cases hx with
   |ay sv _ hb=>
    subst hb;have hsz:sv.data.toList.length=sv.size:=aU;refine⟨sv.data.toList.map fun x=>.int .u8 x.toNat,⟨aB,fun i c v hc hv=>?_⟩,aB,fun L=>by simp[Builtin.lenOf,hsz],fun L hw=>?_⟩
    .rw[fd]at hc hv;cases hi:sv.data.toList[i]? with
     |none=>simp_all
     |some u=>
      rw[hi]at hc hv;simp only[lB,am]at hc hv;subst hc hv;exact .int _ _
    .simp only[Builtin.firstCells,nT]
     congr 1
     apply Ac;simp_all
  .simp at V
 .simp at V
def FZ(z:Array Value)(n:Nat):(Builtin.zeroCells z n).toList.length=n*z.size:=by simp[Builtin.zeroCells]
def Pm{ty:TypeId}(hd:P.underlying t=some (.slice e))(m:P.underlying u=some L)(O:∀k,L≠.int k)(V:bp P e=some s)
 {a:Option Addr}{len cap:Nat} (Z:len+n<=cap) {nv:qL} (Y:(Builtin.lenOf I).run P w=.ok n w) (z:(Builtin.firstCells s n I).run P w=.ok nv.toArray w) :
 (Builtin.append_ #[t,u] ty #[.slice a len cap,I]).run P w=(match a with
   |some a=>((storeCells (a.add (len*s)) nv).run P w).andThen fun _ J=>.ok (.slice (some a) (len+n) cap) J
   |none=>.ok (.slice none (len+n) cap) w):=by
 have j:(match L with|.int _=>true |_=>false)=false:=aU;simp only[Builtin.append_];simp[el hd,el m,mE V,Y];rw[ai Z,z];cases a<;>simp
theorem ZS{ty:TypeId}(hd:P.underlying t=some (.slice e))(j:P.underlying u=some L)(O:∀k,L≠.int k)(hs:bp P e=some s)(hb:cT P e=some b)
 {J:Value} (hz:∀w,(zeroValue e).run P w=.ok J w)
 {a:Option Addr}{len cap:Nat} (Z:cap<len+n) (V:(len+n)*b<=ej) (m:len+n<=ej) {ov nv:qL} (hl:(Builtin.lenOf I).run P w=.ok n w) (hf:(Builtin.firstCells s n I).run P w.drew=.ok nv.toArray w.drew)
 (ho:(Builtin.firstCells s len (.slice a len cap)).run P w.drew=.ok ov.toArray w.drew) :
 (Builtin.append_ #[t,u] ty #[.slice a len cap,I]).run P w=.ok (.slice (some ⟨w.heap.size,0,none⟩) (len+n) (grownCap w (len+n) cap e))
   (w.drew.alloc (.cells (ov++nv++(Builtin.zeroCells J.cells (grownCap w (len+n) cap e-(len+n))).toList).toArray e)):=by
 have hz':(match L with|.int _=>true |_=>false)=false:=by cases L<;>first|rfl|exact(O _ rfl).elim
 obtain⟨i,hi,Y⟩:∃i,P.info? e=some i/\i.bytes=b:=JU;have hm:ej=70368744177664:=rfl;rw[hm]at V m;have z:¬(281474976710656<Builtin.nextslicecap (len+n) cap*b):=by
  have:=growslice_fits Z (bytes:=b) ac;omega
 have C:¬(9223372036854775807<((len:Int)+(n:Int))):=ac;have h1:¬(len+n<=cap):=ac;simp only[Builtin.append_];simp[el hd,el j,mE hs,hl,h1,wZ hi,Y,C,z,Question.forced,ho,hf,hz,newRow,grownCap]
 congr 2
 simp_all
def R.heap(h:R B H w G)(e:w'.heap=w.heap):R B H w' G:=by
 have k:∀a,w'.cell? a=w.cell? a:=fun a=>by simp[World.cell?,e]
 have L:∀a,w'.frozen? a=w.frozen? a:=fun a=>by simp[World.frozen?,e]
 exact{
  cc:=by rw[e];exact h.cc
  dz:=h.dz
  lt:=fun r b o x hr=>by rw[e];exact h.lt r b o x hr
  cells:=fun r b o x O imm z hr hc j c I=>by rw[k];exact h.cells r b o x O imm z hr hc j c I
  aP:=h.aP
  ext:=h.ext
  b9:=h.b9
  b0:=fun r b o x O imm z hr hc j I Z=>by rw[k,L];exact h.b0 r b o x O imm z hr hc j I Z
  apart:=h.apart
  map:=fun r b o x V hr hc=>by rw[e];exact h.map r b o x V hr hc
  a7:=h.a7
  dv:=fun b o v Y=>by rw[k];exact h.dv b o v Y
  val:=h.val
  ec:=h.ec}
def Step.d0(h:Step B O G w.drew H' w' Y):Step B O G w H' w' Y:=
 ⟨h.r,h.ext,⟨h.fr.os,h.fr.tape,h.fr.output,h.fr.size,h.fr.block⟩,h.new,h.dj,h.mono,h.dB⟩
def kR.fT{o off len:Nat}(V:kR G w b o cs)(J:off+len*s=cs.length){cap:Nat}:
 ∃O,cq G (cs.drop off) O/\O.length=len*s/\∀L,(∀a,L.cell? a=w.cell? a)->(Builtin.firstCells s len (.slice (some ⟨b,o+off,none⟩) len cap)).run P L=.ok O.toArray L:=by
 obtain⟨vs,Y,m⟩:=(V.drop off).list;have Z:vs.length=len*s:=by rw[<-Y.1,ui];omega
 exact⟨vs,Y,Z,fun L hw=>J8 L s len _ len cap vs Z (fun j v I=>by rw[hw,rC];exact m j v I)⟩
theorem Pn(h:jF P u=true):∃d,P.underlying u=some d/\∀k,d≠.int k:=by
 unfold jF at h
 grind
theorem ZT(h:R B H w G)(keep:Bool)(s:Nat)(sv:AV):Step B H.next G w (iM keep H s sv) w G:=by
 unfold iM;split
 .rename_i r off len z;split
  .rename_i cs imm hg;split
   .rename_i hc;simp only[bT]at hc;have h1:off+len*s<cs.length:=aU;have h2:=FU hc.2;generalize off+len*s=m at h1 h2;have hgs:∀Z b',(H.set r (.cells (cs.take m) imm true)).get Z=some b'->(Z=r/\b'=.cells (cs.take m) imm true)\/(Z≠r/\H.get Z=some b'):=fun Z b' he=>by
     rw[aQ]at he
     grind
    have J:∀Z C Y V,(H.set r (.cells (cs.take m) imm true)).get Z=some (.cells C Y V)->∃L,H.get Z=some (.cells L Y V)/\(∀(j:Nat) c,C[j]?=some c->L[j]?=some c)/\C.length<=L.length/\(∀x,fU x C V=fU x L V):=fun Z C Y V he=>by
     rcases hgs Z _ he with⟨rfl,e⟩|⟨_,e⟩
     .simp only[HB.cells.injEq]at e;obtain⟨rfl,rfl,rfl⟩:=e;refine⟨cs,hg,fun j c hj=>?_,FT,fun x=>rfl⟩;rw[ry]at hj;split at hj
      .exact hj
      .simp at hj
     simp_all
    refine⟨?_,Ad _,Ci _ _,yx _ _,fun _ _ h=>.inl h,aG _,fun _ _ _ h=>.inl h⟩;exact{
     cc:=h.cc
     dz:=h.dz
     lt:=h.lt
     cells:=fun Z b o x C Y V hr O j c hj=>by
      obtain⟨L,I,e2,_⟩:=J Z C Y V O;exact h.cells Z b o x L Y V hr I j c (e2 j c hj)
     aP:=fun Z b o x C Y V hr O j hj hjl=>by
      obtain⟨L,I,_,e3,_⟩:=J Z C Y V O;exact h.aP Z b o x L Y V hr I j hj ac
     ext:=fun Z b o x C Y V hr O=>by
      obtain⟨L,I,_,e3,e4⟩:=J Z C Y V O;have:=h.ext Z b o x L Y V hr I;rw[e4];omega
     b9:=fun Z b o x C Y V hr O=>by
      obtain⟨L,I,_,e3,e4⟩:=J Z C Y V O;have:=h.b9 Z b o x L Y V hr I;omega
     b0:=fun Z b o x C Y V hr O j hj hjl=>by
      obtain⟨L,I,_,_,e4⟩:=J Z C Y V O;exact h.b0 Z b o x L Y V hr I j hj aU
     apart:=fun aq b1 o1 x1 cs1 imm1 tip1 r2 b2 o2 x2 cs2 imm2 tip2 hr1 hc1 hr2 hc2 hne j j' q1 q2 q3 q4=>by
      obtain⟨cs01,I,_,_,e14⟩:=J aq cs1 imm1 tip1 hc1;obtain⟨cs02,e2,_,_,e24⟩:=J r2 cs2 imm2 tip2 hc2;exact h.apart aq b1 o1 x1 cs01 imm1 tip1 r2 b2 o2 x2 cs02 imm2 tip2 hr1 I hr2 e2 hne j j' q1 aU q3 aU
     map:=fun Z b o x es hr O=>by
      rcases hgs Z _ O with⟨_,e⟩|⟨_,e⟩
      .simp at e
      .exact h.map Z b o x es hr e
     a7:=fun aq b1 o1 x1 es r2 b2 o2 x2 hr1 hc1 hr2 hc2 hne=>by
      rcases hgs aq _ hc1 with⟨_,e⟩|⟨_,e⟩
      .simp at e
      .refine h.a7 aq b1 o1 x1 es r2 b2 o2 x2 hr1 e hr2 ?_ hne;rw[aQ]at hc2
       grind
     dv:=h.dv
     val:=h.val
     ec:=h.ec}
   .exact lU h
  .exact lU h
 .exact lU h
structure znL (P:Program) (w:World) (t u ty e:TypeId) (s b:Nat) (xv:Value) (n:Nat) (nv:qL):Prop where
 fit:∀{a:Option Addr}{len cap:Nat},len+n<=cap->(Builtin.append_ #[t,u] ty #[.slice a len cap,xv]).run P w=(match a with
  |some a=>((storeCells (a.add (len*s)) nv).run P w).andThen fun _ w'=>.ok (.slice (some a) (len+n) cap) w'
  |none=>.ok (.slice none (len+n) cap) w)
 new:∀{zv:Value},(∀w,(zeroValue e).run P w=.ok zv w)->∀{a:Option Addr}{len cap:Nat}{ov:qL},cap<len+n->(len+n)*b<=ej->len+n<=ej->(Builtin.firstCells s len (.slice a len cap)).run P w.drew=.ok ov.toArray w.drew ->
  (Builtin.append_ #[t,u] ty #[.slice a len cap,xv]).run P w=.ok (.slice (some ⟨w.heap.size,0,none⟩) (len+n) (grownCap w (len+n) cap e))
    (w.drew.alloc (.cells (ov++nv++(Builtin.zeroCells zv.cells (grownCap w (len+n) cap e-(len+n))).toList).toArray e))
def Po(h:R B H w G){keep:Bool}{ty:TypeId}{z L:qB}{nv:qL}{sv:AV}{svv xv:Value}(hs:bp P e=some s)(hb:cT P e=some b)(hz:cC P e=some z)(hzl:z.length=s)
 (hA:znL P w t u ty e s b xv n nv) (h1:cq G L nv) (h2:nv.length=n*s) (hn0:n≠0) (hone:L.all AV.one=true) (hsv:VR G sv svv) (m:oD keep (iM keep H s sv) s b sv n L=some (c,H')) :
 ∃v w' G',(Builtin.append_ #[t,u] ty #[svv,xv]).run P w=.ok v w'/\VR G' c v/\Step B H.next G w H' w' G':=by
 have hnl:L.length=n*s:=by rw[h1.1,h2]
 obtain⟨zv,hzr,hzv⟩:=Ag hz;have hzs:zv.cells.size=s:=by have:=(hzv G).1;rw[hzl]at this;simpa using this.symm
 have ht:=ZT h keep s sv
 suffices hgoal:∃v w' G',(Builtin.append_ #[t,u] ty #[svv,xv]).run P w=.ok v w'/\VR G' c v/\Step B (iM keep H s sv).next G w H' w' G' by
  obtain⟨v,w',G',g1,g2,g3⟩:=hgoal;exact⟨v,w',G',g1,g2,ht.trans g3⟩
 replace h:=ht.r;clear ht;generalize iM keep H s sv=H at m h⊢;unfold oD at m;split at m
 ·-- onto nil
  split at m
  .rename_i hroom;simp only[dB]at m;obtain⟨rfl,rfl⟩:=m;cases hsv;have Z:=hA.new hzr (a:=none) (len:=0) (cap:=0) (ov:=[]) ac (by simpa using hroom.1) (by simpa using hroom.2) (by simp[Builtin.firstCells]);have J:=FJ (h.heap (w':=w.drew) rfl) h1 (Builtin.zeroCells zv.cells (grownCap w (0+n) 0 e-(0+n))).toList e;have hge:=grownCap_ge w (0+n) 0 e;refine⟨_,_,_,Z,?_,J.d0⟩;rw[bR]at hge⊢;refine .sl (vH _ _ _) hge ?_;rw[FZ,hzs,h2];have:grownCap w n 0 e*s=n*s+(grownCap w n 0 e-n)*s:=JT;simp;omega
  .simp at m
 ·-- onto a row of its own
  rename_i r off len zz;split at m
  .rename_i cs imm hg;split at m
   .rename_i hcond2;obtain⟨hr1,hr2,hend,rfl,himm⟩:=hcond2;cases hsv with
    |sl hr hlc hcx=>
     rename_i Y C x0 cap;have hHolds:=h.cells _ _ _ _ _ _ _ hr hg;have hex:=h.ext _ _ _ _ _ _ _ hr hg;simp only[fU]at hex;have hoff:off<=cs.length:=ac;obtain⟨ov,o1,o2,o3⟩:=hHolds.fT (P:=P) (off:=off) (s:=zz) (len:=len) hend (cap:=cap)
     have V:r≠H.next:=fun e=>by have:=h.dz _ _ hr;omega
     by_cases hfit:len+n<=cap
     ·-- in its room
      have Z:=hA.fit (a:=some ⟨Y,C+off,none⟩) hfit;simp only[]at Z;rw[rC,lS,hend]at Z;have hcap:(len+n)*zz<=cap*zz:=Ch _ hfit;rw[th]at hcap;cases keep with
      |false=>
       simp only[dV,fK,dB]at m;obtain⟨rfl,rfl⟩:=m;obtain⟨w',hw,I⟩:=J0 P hr cs.length L nv cs 0 H w h hg h1 (h1.ce hone) ac ac Ce aB;rw[hw]at Z;simp only[gT]at Z;rw[wY,O2]at I;have hstr:=O3 I.r (r:=r) (cs:=cs++L) (imm:=imm) hr iW (off:=off) cZ;refine⟨_,w',_,Z,?_,(I.trans hstr).congr rfl fun k _=>?_⟩
       .refine .sl (vH _ _ _) hfit ?_;omega
       .rw[aL,aL,jH,jH,aQ,FV hoff];simp only[rB,bK];by_cases e1:k=H.next
        .simp only[e1,dG]
        .by_cases e2:k=r
         .simp only[e2,dG]
         .simp only[e1,e2,fK]
      |true=>
       simp only[dG,dB]at m;obtain⟨rfl,rfl⟩:=m;have O:=Cm h hr hg (n:=cs.length) himm (aG _) true (fun _=>rfl);obtain⟨w',hw,I⟩:=J0 P (G:=G.bU w Y C cs.length) (r:=r) (imm:=cs.length) (tip:=true) hr cs.length L nv cs 0 _ w O.r iW (h1.mono O.ext) (h1.ce hone) ac ac Ce aB;rw[hw]at Z;simp only[gT]at Z;rw[wY,O2]at I;have hgr:((H.set r (.cells cs cs.length true)).set r (.cells (cs++L) cs.length true)).get r=some (.cells (cs++L) cs.length true):=iW;have hstr:=O3 I.r (r:=r) (cs:=cs++L) (imm:=cs.length) hr hgr (off:=off) cZ;have hmid:=(O.trans I).trans hstr;have hrr:((G.bU w Y C cs.length).add H.next (Y,C+off,x0-off)).β r=some (Y,C,x0):=by
        simp only[Gh.add];rw[ah V];exact hr
       have hnoMap:∀aq b1 o1 x1 es,((G.bU w Y C cs.length).add H.next (Y,C+off,x0-off)).β aq=some (b1,o1,x1) ->
        ((((H.set r (.cells cs cs.length true)).set r (.cells (cs++L) cs.length true)).bh r).alloc (.cells ((cs++L).drop off) (cs.length-off) true)).get aq=some (.map es)->b1≠Y:=fun aq b1 o1 x1 es g1 g2=>by
        rw[aL,jH,aQ,aQ]at g2;simp only[rB,bK]at g2;by_cases hne:aq=H.next
        .simp[hne]at g2
        .by_cases hne2:aq=r
         .simp[hne2]at g2
         .simp only[hne,hne2,fK]at g2;have g1':G.β aq=some (b1,o1,x1):=by simp only[Gh.add]at g1;rw[ah hne]at g1;exact g1
          exact h.a7 aq b1 o1 x1 es r Y C x0 g1' g2 hr (by rw[hg];rfl) hne2
       have hHolds':kR ((G.bU w Y C cs.length).add H.next (Y,C+off,x0-off)) w' Y C cs:=fun j c hj=>by
        have hjl:j<cs.length:=(gR.1 hj).1;have h5:=I.r.cells r Y C x0 _ _ _ hr hgr j c (by rw[nQ hjl];exact hj);obtain⟨v,q1,q2⟩:=h5;exact⟨v,q1,q2.mono hstr.ext⟩
       have hFF:∀j,j<cs.length->∃v,((G.bU w Y C cs.length).add H.next (Y,C+off,x0-off)).F Y (C+j)=some v:=fun j hj=>
        O.r.aP r Y C x0 cs cs.length true hr iW j hj hj
       have hrev:=Zt hmid.r hrr (h.b9 _ _ _ _ _ _ _ hr hg) hHolds' hFF hnoMap;refine⟨_,w',_,Z,?_,(hmid.trans hrev).congr rfl fun k _=>?_⟩
       .refine .sl (vH _ _ _) hfit ?_;omega
       .rw[aQ,aL,aL,jH,aQ,aQ,aQ,FV hoff];simp only[rB,bK];have:cs.length-off=len*zz:=ac;rw[this];by_cases e1:k=r
        .subst e1;simp only[V,dG,fK]
        .simp only[e1,fK]
     ·-- a L row
      have hfit':cap<len+n:=ac;have Z:=hA.new hzr (a:=some ⟨Y,C+off,none⟩) hfit' hr1 hr2 (o3 w.drew (fun _=>rfl));have hge:=grownCap_ge w (len+n) cap e;have hlen2:(ov++nv).length=(len+n)*zz:=by rw[fx,o2,h2,th]
      have hcapx:grownCap w (len+n) cap e*zz=(ov++nv).length+(Builtin.zeroCells zv.cells (grownCap w (len+n) cap e-(len+n))).toList.length:=by
       rw[FZ,hzs,hlen2,<-th];congr 1;omega
      have J:=(FJ (h.heap (w':=w.drew) rfl) (o1.append h1) (Builtin.zeroCells zv.cells (grownCap w (len+n) cap e-(len+n))).toList e).d0;have hnn:∀(X:HB) (k:Nat),k≠H.next->(H.alloc X).get k=H.get k:=fun X k hk=>by rw[aL,ah hk]
      have hadd:∀p,(G.add H.next p).β H.next=some p:=fun p=>vH _ _ _
      have hlenX:(cs.drop off++L).length=(len+n)*zz:=by rw[fx,ui,hnl,th];omega
      cases keep with
      |false=>
       simp only[dV,fK,dB]at m;obtain⟨rfl,rfl⟩:=m;have hk:=J.r.bh r;have hgx:((H.alloc (.cells (cs.drop off++L) 0 true)).bh r).get H.next=some (.cells (cs.drop off++L) 0 true):=by
        rw[jH,ah (Ne.symm V),aL,ai rfl]
       have O:=Cm hk (hadd _) hgx (n:=imm-off) (eR _) (by rw[hlenX,th];omega) true (fun _=>rfl);have hst2:Step B H.next G w _ _ _:=⟨hk,J.ext,J.fr,J.new,J.dj,J.mono,J.dB⟩
       refine⟨_,_,_,Z,?_,(hst2.trans O).congr rfl fun k _=>?_⟩
       .exact .sl (hadd _) hge ac
       .rw[aQ,aL,jH,jH,aL];simp only[rB];by_cases e1:k=H.next
        .simp only[e1,dG]
        .simp only[e1,fK]
      |true=>
       simp only[dG,dB]at m;obtain⟨rfl,rfl⟩:=m;have hgx:(H.alloc (.cells (cs.drop off++L) 0 true)).get H.next=some (.cells (cs.drop off++L) 0 true):=fw
       have O:=Cm J.r (hadd _) hgx (n:=len*zz) (eR _) (by rw[hlenX,th];omega) true (fun _=>rfl);have hgr:((H.alloc (.cells (cs.drop off++L) 0 true)).set H.next (.cells (cs.drop off++L) (len*zz) true)).get r=some (.cells cs imm true):=by
        rw[aQ,ah V,hnn _ _ V];exact hg
       have hice2:=Cm O.r (r:=r) (by
        show(G.add H.next _).β r=_;simp only[Gh.add];rw[ah V];exact hr) hgr (n:=cs.length) himm (aG _) false aB
       refine⟨_,_,_,Z,?_,((J.trans O).trans hice2).congr rfl fun k _=>?_⟩
       .exact .sl (hadd _) hge ac
       .rw[aQ,aQ,aL,aL,aQ];simp only[bK];by_cases e1:k=H.next
        .have e3:¬H.next=r:=fun e=>V e.symm
         simp only[e1,e3,dG,fK]
        .simp only[e1,fK]
   .simp at m
  .simp at m
 .simp at m
theorem ZU{ty:TypeId}{k k':IntKind}(hd:P.underlying t=some (.slice e))(hu:P.underlying u=some (.int k'))(hs:bp P e=some s)(hb:cT P e=some b)
 {O:Value} (hz:∀w,(zeroValue e).run P w=.ok O w) (hzs:O.cells.size=s)  (h1:n*b<=ej) (h2:n<=ej) :
 znL P w t u ty e s b (.int k (n:Int)) n (Builtin.zeroCells O.cells n).toList:=by
 obtain⟨i,hi,I⟩:∃i,P.info? e=some i/\i.bytes=b:=JU;have hm:ej=70368744177664:=rfl;rw[hm]at h1 h2;have J:IntKind.i64.wrap (n:Int)=n:=by
  unfold IntKind.wrap;simp[IntKind.signed,IntKind.bits];omega
 have C:¬((n:Int)<0):=ac;have z:¬(281474976710656<(n:Int)*(b:Int)):=by
  have:(n:Int)*(b:Int)=((n*b:Nat):Int):=by push_cast;rfl
  omega
 have j:n*s=0->(Builtin.zeroCells O.cells n).toList=[]:=fun e=>Co (by rw[FZ,hzs,e]);have hai:∀w,(asInt (.int k (n:Int))).run P w=.ok (n:Int) w:=fun w=>by simp[asInt,asIntOf]
 refine⟨fun{a Y L} Z=>?_,fun{zv'} hz' {a Y L ov} Z V m ho=>?_⟩
 .simp only[Builtin.append_];simp[el hd,el hu,mE hs,wZ hi,I,hai,J,C,z,hz];rw[ai Z];by_cases e:n*s=0
  .rw[ai e,j e];cases a<;>simp
  .rw[ah e];cases a<;>simp
 .obtain rfl:zv'=O:=by
   have:=(hz' w).symm.trans (hz w);simpa using this
  rw[hm]at V m;have h48:¬(281474976710656<Builtin.nextslicecap (Y+n) L*b):=by
   have:=growslice_fits Z (bytes:=b) ac;omega
  have h63:¬(9223372036854775807<((Y:Int)+(n:Int))):=ac;have h1':¬(Y+n<=L):=ac;simp only[Builtin.append_];simp[el hd,el hu,mE hs,wZ hi,I,hai,J,C,z,h1',h63,h48,Question.forced,ho,hz,newRow,grownCap];by_cases e0:n*s=0
  .rw[ai e0,j e0]
   congr 3
   apply Ac;simp
  .rw[ah e0]
   congr 3
   apply Ac;simp
theorem Pp{z:qB}(h:z.all AV.one=true):∀n,(jO z n).all AV.one=true
 |0=>rfl
 |n+1=>by rw[jO,J9,h,Pp h n];rfl
theorem ZV(h:R B H w G){keep:Bool}{ty:TypeId}{sv:AV}{xv:Value}(J:VR G sv I)(hx:VR G x xv)(Z:dr P keep H t u sv x=some (c,H')):
 ∃v w' G',(Builtin.append_ #[t,u] ty #[I,xv]).run P w=.ok v w'/\VR G' c v/\Step B H.next G w H' w' G':=by
 unfold dr at Z;split at Z
 .rename_i e hd;split at Z
  .rename_i s b z hs hb hz;split at Z
   .rename_i l0 hst V;obtain⟨du,hu,L⟩:=Pn hst;obtain⟨nv,h1,h2,h3,h4⟩:=Kg (P:=P) h hx V;have hnv:nv=[]:=aU;subst hnv;have O:∀a len cap,I=.slice a len cap->len<=cap->(Builtin.append_ #[t,u] ty #[I,xv]).run P w=.ok I w:=fun a len cap e Y=>by
     subst e;rw[Pm hd hu L hs (n:=0) ac (h3 w) (h4 w (fun _=>rfl))];cases a<;>simp[storeCells]
    split at Z
    .simp only[dB]at Z;obtain⟨rfl,rfl⟩:=Z;refine⟨I,w,G,?_,J,lU h⟩;cases J with
     |sl hr hl hc=>simp_all
    .simp only[dB]at Z;obtain⟨rfl,rfl⟩:=Z;refine⟨I,w,G,?_,J,lU h⟩;cases J with
     |aE vs hz hF hv hc=>simp_all
     |cL a cap=>simp_all
    .simp only[dB]at Z;obtain⟨rfl,rfl⟩:=Z;refine⟨I,w,G,?_,J,lU h⟩;cases J with
     |ao=>simp_all
    .simp at Z
   .rename_i n new hnz hst V;obtain⟨du,hu,L⟩:=Pn hst;obtain⟨nv,h1,h2,h3,h4⟩:=Kg (P:=P) h hx V;have hn0:n≠0:=fun e=>aU;split at Z
    .rename_i j;exact Po h hs hb hz j.2 ⟨fun Y=>Pm hd hu L hs Y (h3 w) (h4 w (fun _=>rfl)),fun{zv} C {a len cap ov} Y hr1 hr2 ho=>ZS hd hu L hs hb C Y hr1 hr2 (h3 w) (h4 w.drew (fun _=>rfl)) ho⟩ h1 h2 hn0 j.1 J Z
    .simp at Z
   .unfold OV at Z;split at Z
    .rename_i k' k m hu _ _;split at Z
     .rename_i j;obtain⟨hc1,hc2,hc3,hc4⟩:=j;obtain⟨zv,C,hzv⟩:=Ag hz;have hzs:zv.cells.size=s:=by have:=(hzv G).1;rw[hc3]at this;simpa using this.symm
      cases hx;have hA:=ZU (P:=P) (w:=w) (t:=t) (ty:=ty) (k:=k) hd hu hs hb C hzs hc1 hc2;have hzn:∀n,cq G (jO z n) (Builtin.zeroCells zv.cells n).toList:=fun n=>by
       have:=J6 (hzv G) n;unfold Builtin.zeroCells;have e:z.length=zv.cells.size:=by rw[hc3,hzs]
       rw[e]at this;exact this
      split at Z
      .have hz0:(Builtin.zeroCells zv.cells 0).toList=[]:=by simp[Builtin.zeroCells]
       have O:∀a len cap,I=.slice a len cap->len<=cap->(Builtin.append_ #[t,u] ty #[I,.int k (Int.ofNat 0)]).run P w=.ok I w:=fun a len cap e Y=>by
        subst e;have:=hA.fit (a:=a) (len:=len) (cap:=cap) ac;rw[hz0]at this;refine Eq.trans this ?_;cases a<;>simp[storeCells]
       split at Z
       .simp only[dB]at Z;obtain⟨rfl,rfl⟩:=Z;refine⟨I,w,G,?_,J,lU h⟩;cases J with
        |sl hr hl hc=>exact O _ _ _ rfl hl
       .simp only[dB]at Z;obtain⟨rfl,rfl⟩:=Z;refine⟨I,w,G,?_,J,lU h⟩;cases J with
        |aE vs hz hF hv hc=>exact O _ _ _ rfl hc
        |cL a cap=>exact O _ _ _ rfl (eR _)
       .simp only[dB]at Z;obtain⟨rfl,rfl⟩:=Z;refine⟨I,w,G,?_,J,lU h⟩;cases J with
        |ao=>exact O _ _ _ rfl (aG _)
       .simp at Z
      .rename_i m;exact Po h hs hb hz hc3 hA (hzn _) (by rw[FZ,hzs]) ac (Pp hc4 _) J Z
     .simp at Z
    .simp at Z
  .simp at Z
 .simp at Z
end
section
variable {P:Program} {B:Bs} {G:Gh} {H H':Hp} {w:World}
def ZW(sv:ByteArray):sv.data.toList.length=sv.size:=aU
theorem Pq(h:R B H w G){mv:Value}{Y:qU}(O:VR G m mv)(V:BX H m=some Y):
 (mv=.map none/\Y=[])\/∃r b o x ms Z,m=.map r/\mv=.map (some b)/\G.β r=some (b,o,x)/\H.get r=some (.map Y)/\w.heap[b]?=some (.map ms Z)/\vE G Y ms.toList:=by
 unfold BX at V;split at V
 .simp only[am]at V;subst V;cases O;simp_all
 .rename_i r;split at V
  .rename_i I hg;simp only[am]at V;subst V;cases O with
   |map hr=>
    rename_i b o x;obtain⟨ms,Z,j,L⟩:=h.map r b o x _ hr hg;simp_all
  .simp at V
 .simp at V
def Cr{ms:Array MapEntry}(h:w.heap[b]?=some (.map ms Z)):(getObj b).run P w=.ok (.map ms Z) w:=by
 simp[getObj,Sem.run,h]
theorem ZX(h:R B H w G){ty:TypeId}{Y:Value}(I:VR G x Y)(L:jP P H t x=some c):∃v,(Builtin.len_ #[t] ty #[Y]).run P w=.ok v w/\VR G c v:=by
 unfold jP at L;split at L
 .rename_i hd;split at L
  .simp only[am]at L;subst L;cases I with
   |ay j _ C=>
    subst C;refine⟨_,?_,.int _ _⟩;rw[ZW];simp[Builtin.len_,el hd,goInt]
  .simp at L
 .rename_i e hd;split at L
  .simp only[am]at L;subst L;cases I;exact⟨_,Cn,.int _ _⟩
  .simp only[am]at L;subst L;cases I
   .exact⟨_,Cn,.int _ _⟩
   .exact⟨_,Cn,.int _ _⟩
  .simp only[am]at L;subst L;cases I;exact⟨_,Cn,.int _ _⟩
  .simp at L
 .rename_i n e hd;simp only[am]at L;subst L;refine⟨.int .i64 n,?_,.int _ _⟩;simp only[Builtin.len_];simp[el hd,goInt]
 .rename_i z e hd;split at L
  .rename_i V O;simp only[am]at L;subst L;rcases Pq h I O with⟨rfl,rfl⟩|⟨r,b,o,m,ms,Z,rfl,rfl,hr,hg,hw,J⟩
   .exact⟨_,Cn,.int _ _⟩
   .refine⟨.int .i64 V.length,?_,.int _ _⟩;have:ms.size=V.length:=by have:=J.1;simp_all
    simp[Builtin.len_,el hd,Cr hw,goInt,this]
  .simp at L
 .simp at L
def ZY{z:Bool}(Z:VR G x I)(O:VR G y j)(h:mm z x y=some c):∃v,((if z then Builtin.max2 else Builtin.min2) I j).run P w=.ok v w/\VR G c v:=by
 unfold mm at h;split at h
 .simp only[am]at h;subst h;cases Z;cases O;cases z
  .refine⟨_,rfl,?_⟩;simp only[dV,fK,kE];exact .int _ _
  .refine⟨_,rfl,?_⟩;simp only[dG,kE];exact .int _ _
 .simp at h
theorem Kh{Y:Bool}:∀{V:qB}{Z:qL}{x c:AV}{I:Value},VR G x I->cq G V Z->wO Y x V=some c ->
 ∃v,(Z.foldlM (if Y then Builtin.max2 else Builtin.min2) I).run P w=.ok v w/\VR G c v
 |[],Z,x,c,I,hx,hxs,h=>by
  simp only[wO,am]at h;subst h;have:Z=[]:=by have:=hxs.1;simpa using this.symm
  simp_all
 |y::ys,[],_,_,_,_,hxs,_=>by have:=hxs.1;simp at this
 |y::ys,yv::yvs,x,c,I,hx,hxs,h=>by
  obtain⟨O,m⟩:=hxs.bv;simp only[wO]at h;split at h
  .rename_i z j;obtain⟨J,C,L⟩:=ZY (P:=P) (w:=w) hx O j;obtain⟨v,k1,k2⟩:=Kh L m h;simp_all
  .simp at h
theorem Ki(h:vy P t=some d):P.underlying t=some d/\((∃k,d=.int k)\/d=.string\/d=.bool):=by
 unfold vy at h
 grind
theorem Kk{Z:Value}{r:Bool}(I:VR G x Z)(O:VR G y j)(h:wM d x y=some r):Instr.sameNow d Z j=some r:=by
 unfold wM at h;split at h
 .split at h
  .cases I;cases O;exact h
  .simp at h
 .split at h
  .cases I with
   |ay a _ m=>cases O with
    |ay b _ hb=>
     subst m hb;simp only[am]at h;subst h;simp only[Instr.sameNow,am];show(a.data == b.data)=(a.data.toList == b.data.toList);simp_all
  .simp at h
 .split at h
  .cases I;cases O;exact h
  .simp at h
 .simp at h
theorem Kl{d:TypeDesc}{k:AV}{kv:Value}(Z:VR G k kv):∀{V:qU}{ms:List MapEntry}{i:Nat},vE G V ms ->
 (lP d k V i=some none->Instr.findNow d kv ms i=some none) /\
 (∀j v,lP d k V i=some (some (j,v))->∃k' m,V[j-i]?=some (k',v)/\ms[j-i]?=some m/\i<=j/\wM d k k'=some true/\Instr.findNow d kv ms i=some (some (j,m.val)))
 |[],ms,i,he=>by
  have:ms=[]:=by have:=he.1;grind
  subst this;exact⟨fun _=>rfl,fun j v h=>by simp[lP]at h⟩
 |e::V,[],i,he=>by have:=he.1;simp at this
 |(k',v')::V,m::ms,i,he=>by
  obtain⟨Y,h2⟩:=he.2 0 (k',v') m rfl rfl;have O:vE G V ms:=⟨by simpa using he.1,fun j a b L hb=>he.2 (j+1) a b wV (by simpa using hb)⟩;obtain⟨aq,r2⟩:=Kl (d:=d) Z (i:=i+1) O;constructor
  .intro h;simp only[lP]at h;split at h
   .simp at h
   .rename_i z;have:=Kk Z Y z;simp only[Instr.findNow,this];exact aq h
   .simp at h
  .intro j v h;simp only[lP]at h;split at h
   .rename_i z;simp only[dB]at h;obtain⟨rfl,rfl⟩:=h;have:=Kk Z Y z;exact⟨k',m,aB,aB,aG _,z,by simp only[Instr.findNow,this]⟩
   .rename_i z;have:=Kk Z Y z;obtain⟨k2,J,g1,g2,g3,I,C⟩:=r2 j v h;have e1:j-i=(j-(i+1))+1:=ac;refine⟨k2,J,aU,aU,ac,I,?_⟩;simp only[Instr.findNow,this];exact C
   .simp at h
theorem ZZ(n:Nat)(hd:vy P V=some d)(e:Bool)(kv:Value):(Instr.checkKey e (n+1) V kv).run P w=.ok () w:=by
 obtain⟨j,m⟩:=Ki hd;simp only[Instr.checkKey,gS,el j,gT];rcases m with⟨k,rfl⟩|rfl|rfl<;>rfl
def Ct(hd:vy P V=some d)(e:Bool)(kv:Value):(Instr.checkKey e 10000 V kv).run P w=.ok () w:=ZZ 9999 hd e kv
def Cu(hd:P.underlying V=some d){kv:Value}{ms:List MapEntry}{r:Option (Nat×Value)}(h:Instr.findNow d kv ms 0=some r):(Instr.findKey V kv ms).run P w=.ok r w:=by
 simp[Instr.findKey,el hd,h]
def Z0{L:TypeId}(hd:P.underlying t=some (.map L e))(V:vy P L=some d){mv kv:Value}{ok:Bool}{ms:Array MapEntry}
 (J:(mv=.map none/\ms=#[])\/∃b Z,mv=.map (some b)/\w.heap[b]?=some (.map ms Z)) :
 (∀j v,Instr.findNow d kv ms.toList 0=some (some (j,v))->(Instr.lookup t mv kv ok).run P w=.ok (if ok then .tuple #[v,.bool true]else v) w) /\
 (∀Y,(zeroValue e).run P w=.ok Y w->Instr.findNow d kv ms.toList 0=some none->(Instr.lookup t mv kv ok).run P w=.ok (if ok then .tuple #[Y,.bool false]else Y) w):=by
 have I:=(Ki V).1;rcases J with⟨rfl,rfl⟩|⟨b,Z,rfl,hw⟩
 .refine⟨fun j v z=>by simp[Instr.findNow]at z,fun Y O z=>?_⟩;have m:=Cu (P:=P) (w:=w) I z;simp only[Instr.lookup,gS,el hd,gT,nT,Ct V,m,O]
 .refine⟨fun j v z=>?_,fun Y O z=>?_⟩
  .have m:=Cu (P:=P) (w:=w) I z;simp only[Instr.lookup,gS,el hd,gT,Cr hw,nT,Ct V,m]
  .have m:=Cu (P:=P) (w:=w) I z;simp only[Instr.lookup,gS,el hd,gT,Cr hw,nT,Ct V,m,O]
theorem Z1(h:R B H w G){mv kv:Value}{ok:Bool}(hm:VR G m mv)(hk:VR G k kv)(L:sd P H t m k ok=some c):
 ∃v,(Instr.lookup t mv kv ok).run P w=.ok v w/\VR G c v:=by
 unfold sd at L;split at L
 .rename_i kt e hd;split at L
  .rename_i es V J Y;obtain⟨ms,I,hE⟩:∃ms:Array MapEntry,((mv=.map none/\ms=#[])\/∃b Z,mv=.map (some b)/\w.heap[b]?=some (.map ms Z))/\vE G es ms.toList:=by
    rcases Pq h hm J with⟨rfl,rfl⟩|⟨r,b,o,xx,ms,Z,rfl,rfl,hr,hg,hw,he⟩
    .exact⟨#[],.inl ⟨rfl,rfl⟩,rfl,aB⟩
    simp_all
   obtain⟨f1,f2⟩:=Kl (d:=V) hk (i:=0) hE;obtain⟨aq,r2⟩:=Z0 (kv:=kv) (ok:=ok) hd Y I;split at L
   .rename_i j v z;simp only[am]at L;subst L;obtain⟨k',m',g1,g2,_,_,g5⟩:=f2 j v z;have O:=(hE.2 _ _ _ g1 g2).2;refine⟨_,aq _ _ g5,?_⟩;cases ok
    .exact O
    .exact .bH (vs:=[m'.val,.bool true]) rfl (lT O (lT (.bool true) (ti _))).2
   .rename_i z;split at L
    .rename_i v O;simp only[am]at L;subst L;obtain⟨zv,z1,C⟩:=Zu O;refine⟨_,r2 _ (z1 w) (f1 z),?_⟩;cases ok
     .exact C G
     .exact .bH (vs:=[zv,.bool false]) rfl (lT (C G) (lT (.bool false) (ti _))).2
    .simp at L
   .simp at L
  .simp at L
 .simp at L
end
section
variable {P:Program} {B:Bs} {G:Gh} {H H':Hp} {w:World}
theorem Ps(h:R B H w G){r o x:Nat}{es I:qU}{ms':Array MapEntry}{clock':Nat}(hr:G.β r=some (b,o,x))(hg:H.get r=some (.map es))(he:vE G I ms'.toList):
 Step B H.next G w (H.set r (.map I)) {w with heap:=w.heap.setIfInBounds b (.map ms' clock') } G:=by
 obtain⟨ms,clock,hw,_⟩:=h.map r b o x es hr hg;have hb:b<w.heap.size:=(h.lt r b o x hr).2
 let w':World:={w with heap:=w.heap.setIfInBounds b (.map ms' clock') }
 have Y:∀k,k≠b->w'.heap[k]?=w.heap[k]?:=fun k O=>by
  grind
 have hheapb:w'.heap[b]?=some (.map ms' clock'):=by
  grind
 have m:∀J Z v,w.cell? ⟨J,Z,none⟩=some v->J≠b:=fun J Z v hc e=>by
  subst e;unfold World.cell? at hc;simp_all
 have hkeep:∀J Z v,w.cell? ⟨J,Z,none⟩=some v->w'.cell? ⟨J,Z,none⟩=some v:=fun J Z v hc=>by
  rw[World.cell?_of_block (w:=w) (Y J (m J Z v hc))];exact hc
 have V:∀k,k≠r->(H.set r (.map I)).get k=H.get k:=fun k O=>by rw[aQ,ah O]
 have hgetr:(H.set r (.map I)).get r=some (.map I):=iW;refine⟨?_,Ad _,⟨rfl,rfl,rfl,aB,fun k O hn=>Y k (fun e=>hn r b o x hr e.symm)⟩,yx _ _,fun _ _ h=>.inl h,aG _,fun _ _ _ h=>.inl h⟩;exact{
  cc:=by have:=h.cc;simp_all
  dz:=h.dz
  lt:=fun r b o x hr=>by have:=h.lt r b o x hr;simp_all
  cells:=fun k J Z L cs imm z O hc=>by
   by_cases e:k=r
   .simp_all
   .rw[V k e]at hc;intro j c hj;obtain⟨v,h1,h2⟩:=h.cells k J Z L cs imm z O hc j c hj
    grind
  aP:=fun k J Z L cs imm z O hc=>by
   by_cases e:k=r
   .simp_all
   .rw[V k e]at hc;exact h.aP k J Z L cs imm z O hc
  ext:=fun k J Z L cs imm z O hc=>by
   by_cases e:k=r
   .simp_all
   .rw[V k e]at hc;exact h.ext k J Z L cs imm z O hc
  b9:=fun k J Z L cs imm z O hc=>by
   by_cases e:k=r
   .simp_all
   .rw[V k e]at hc;exact h.b9 k J Z L cs imm z O hc
  b0:=fun k J Z L cs imm z O hc j hj hjl=>by
   by_cases e:k=r
   .simp_all
   .rw[V k e]at hc;obtain⟨⟨v,h1⟩,h2,h3⟩:=h.b0 k J Z L cs imm z O hc j hj hjl;refine⟨⟨v,hkeep _ _ _ h1⟩,?_,h3⟩;rw[World.frozen?_of_block (w:=w) (Y J (m _ _ _ h1))];exact h2
  apart:=fun k1 b1 o1 x1 cs1 imm1 tip1 k2 b2 o2 x2 cs2 imm2 tip2 hk1 C hk2 hc2=>by
   by_cases e1:k1=r
   .simp_all
   .by_cases e2:k2=r
    .simp_all
    .rw[V k1 e1]at C;rw[V k2 e2]at hc2;exact h.apart k1 b1 o1 x1 cs1 imm1 tip1 k2 b2 o2 x2 cs2 imm2 tip2 hk1 C hk2 hc2
  map:=fun k J Z L es1 O hc=>by
   by_cases e:k=r
   .simp_all
   .rw[V k e]at hc;obtain⟨ms1,clock1,h1,h2⟩:=h.map k J Z L es1 O hc;refine⟨ms1,clock1,?_,h2⟩;rw[Y J (fun eb=>h.a7 k J Z L es1 r b o x O hc hr (by rw[hg];rfl) e eb)];exact h1
  a7:=fun k1 b1 o1 x1 es1 k2 b2 o2 x2 hk1 C hk2 hs hne=>by
   have hs':(H.get k2).isSome:=by
    grind
   by_cases e1:k1=r
   .subst e1;exact h.a7 k1 b1 o1 x1 es k2 b2 o2 x2 hk1 hg hk2 hs' hne
   .rw[V k1 e1]at C;exact h.a7 k1 b1 o1 x1 es1 k2 b2 o2 x2 hk1 C hk2 hs' hne
  dv:=fun J Z v hf=>hkeep _ _ _ (h.dv J Z v hf)
  val:=h.val
  ec:=h.ec}
def Pt{ms ms':Array MapEntry}{clock':Nat}(h:w.heap[b]?=some (.map ms Z)):
 (setObj b (.map ms' clock')).run P w=.ok () {w with heap:=w.heap.setIfInBounds b (.map ms' clock') }:=by
 simp[setObj,Sem.run,h]
theorem Z2(n:Nat){Z:Value}(I:VR G x Z)(O:VR G y j)(h:wM d x y=some true):Instr.sameBits n j Z=true:=by
 unfold wM at h;split at h
 .split at h
  .split at h
   .rename_i e;subst e;cases I;cases O;simp only[am,w1]at h;subst h;cases n<;>simp[Instr.sameBits]
   .simp at h
  .simp at h
 .split at h
  .cases I with
   |ay a _ m=>cases O with
    |ay b _ hb=>
     subst m hb;simp only[am,w1]at h;have L:(b == a)=true:=by
      show(b.data == a.data)=true;simp_all
     cases n<;>simp[Instr.sameBits,L]
  .simp at h
 .split at h
  .cases I;cases O;simp only[am,w1]at h;subst h;cases n<;>simp[Instr.sameBits]
  .simp at h
 .simp at h
theorem Z3{old L:Value}(h:Instr.sameBits 10000 old L=true):(Instr.keyThatStays old L).run P w=.ok L w:=by
 unfold Instr.keyThatStays;simp_all
theorem Z4(h:R B H w G){mv kv vv:Value}(hm:VR G m mv)(hk:VR G k kv)(hv:VR G v vv)(V:te P H t m k v=some H'):
 ∃w',(Instr.mapUpdate t mv kv vv).run P w=.ok () w'/\Step B H.next G w H' w' G:=by
 unfold te at V;split at V
 .rename_i kt e hd;split at V
  .rename_i r I Y;split at V
   .rename_i es hg;cases hm with
    |map hr=>
     rename_i b o x;obtain⟨ms,Z,hw,hE⟩:=h.map r b o x es hr hg;obtain⟨f1,f2⟩:=Kl (d:=I) hk (i:=0) hE;have C:=(Ki Y).1;split at V
     .rename_i j v0 z;simp only[am]at V;subst V;obtain⟨k',m',g1,g2,_,g4,g5⟩:=f2 j v0 z;simp only[FW]at g1 g2;have hjl:j<ms.size:=cU;have hjm:ms[j]?=some m':=by simpa using g2
      have O:=Z2 10000 hk (hE.2 j _ _ g1 g2).1 g4;have L:=Cu (P:=P) (w:=w) C g5;refine⟨_,?_,Ps h hr hg (ms':=ms.modify j fun e=>{e with key:=kv,val:=vv}) (clock':=Z) ?_⟩
      .simp only[Instr.mapUpdate,gS,el hd,gT,Cr hw,Ct Y,L,hjm,lB,bH,Z3 O,Pt hw]
      .refine⟨by have:=hE.1;simp_all,fun i a c J hc=>?_⟩;rw[oG]at J;rw[Ka,Array.getElem?_modify]at hc;by_cases e:j=i
       .grind
       .rw[ah e]at J hc;exact hE.2 i a c J FB
     .rename_i z;simp only[am]at V;subst V;have L:=Cu (P:=P) (w:=w) C (f1 z);refine⟨_,?_,Ps h hr hg (ms':=ms.push {key:=kv,val:=vv,born:=Z}) (clock':=Z+1) ?_⟩
      .simp only[Instr.mapUpdate,gS,el hd,gT,Cr hw,Ct Y,L,Pt hw]
      .refine⟨by have:=hE.1;simpa using this,fun i a c J hc=>?_⟩;rw[Array.toList_push]at hc;have hl:=hE.1;by_cases hi:i<es.length
       .rw[nQ hi]at J;rw[nQ ac]at hc;exact hE.2 i a c J hc
       grind
     .simp at V
   .simp at V
  .simp at V
 .simp at V
theorem Pu:∀{O:qB}{bs:qD}{vs:qL},yn O=some bs->cq G O vs->∃Z:qA,vs=Z.map (Value.int .u8)/\bs=Z.map fun n=>UInt8.ofNat n.toNat
 |[],bs,vs,h,hv=>by
  simp only[yn,am]at h;subst h;have:vs=[]:=by have:=hv.1;simpa using this.symm
  simp_all
 |c::O,bs,[],h,hv=>by have:=hv.1;simp at this
 |c::O,bs,v::vs,h,hv=>by
  obtain⟨j,m⟩:=hv.bv;unfold yn at h;split at h
  .simp_all
  .rename_i n C e;simp only[eX]at e;obtain⟨rfl,rfl⟩:=e;split at h
   .rename_i V hb;simp only[am]at h;subst h;obtain⟨Z,rfl,rfl⟩:=Pu hb m;cases j;exact⟨n::Z,rfl,rfl⟩
   .simp at h
  .simp at h
theorem Z5(ns:qA):∀s:ByteArray,(ns.foldl (fun r n=>r.push (UInt8.ofNat n.toNat)) s).data.toList=s.data.toList++ns.map fun n=>UInt8.ofNat n.toNat:=by
 induction ns with
 |nil=>intro s;simp
 |cons n ns ih=>simp_all
theorem Z6(h:R B H w G){Z J:TypeId}{xv:Value}(I:VR G x xv)(L:mW P H Z J x=some c):∃v,(convert Z J xv).run P w=.ok v w/\VR G c v:=by
 unfold mW at L;split at L
 .rename_i e V hd;split at L
  .rename_i O;split at L
   .rename_i n cs Y;split at L
    .rename_i bs j;obtain⟨nv,h1,h2,h3,h4⟩:=Kg (P:=P) h I Y;obtain⟨ns,z,rfl⟩:=Pu j h1;split at L
     .simp only[am]at L;subst L;cases I with
      |sl hr hl hcx=>
       rename_i b o xx cap;have C:=h3 w;simp[Builtin.lenOf]at C;subst C;have m:=h4 w (fun _=>rfl);simp only[Builtin.firstCells,lW]at m;rw[z]at m;refine⟨_,by rw[run_convert_bytes_string w Z J e _ _ _ V O hd,run_bytesToString w _ _ _ ns m],.ay _ _ ?_⟩;rw[Z5];rfl
     .simp only[am]at L;subst L;cases I;have C:=h3 w;simp[Builtin.lenOf]at C;have:ns=[]:=by
       grind
      subst this;refine⟨.string .empty,?_,.ay _ _ rfl⟩;rw[run_convert_bytes_string w Z J e _ _ _ V O hd];rfl
     .simp at L
    .simp at L
   .simp at L
  .simp at L
 .rename_i ds k hn V hd;split at L
  .simp only[am]at L;subst L;cases I;refine⟨_,?_,.int _ _⟩;simp[convert,el V,el hd,Conv.intToInt]
  .simp only[am]at L;subst L;cases I;rename_i k0 e0;refine⟨_,?_,.sx _ _⟩;simp[convert,el V,el hd,Conv.intToInt,Sx.eval]
  .simp at L
 .rename_i hn V hd;split at L
  .simp only[am]at L;subst L;have hx':=I;cases I with
   |ay sv _ O=>
    refine⟨.string sv,?_,hx'⟩;simp[convert,el V,el hd]
  .simp at L
 .simp at L
end
section
variable {P:Program} {B:Bs} {G:Gh} {H H':Hp} {w:World}
def yC(G:Gh)(E:aw)(a:Act)(xs:Array Operand):Prop:=∀x∈xs,∀c,aM E x=some c->VR G c (a.eval x)
theorem F0{E:aw}{a:Act}:∀{z:List Operand}{O:qB},(∀x∈z,∀c,aM E x=some c->VR G c (a.eval x))->jE E z=some O->cq G O (z.map a.eval)
 |[],O,_,h=>by
  simp only[jE,am]at h;subst h;exact ti G
 |x::z,O,hk,h=>by
  simp only[jE]at h;split at h
  .rename_i v vs j C;simp only[am]at h;subst h;exact lT (hk x aB v j) (F0 (fun y Z=>hk y (by simp[Z])) C)
  .simp at h
def nV{s:Sem Value}(h:R B H w G)(V:∃v,s.run P w=.ok v w/\VR G c v):yz P B H G w (do pure (.value (<-s))) c H:=by
 obtain⟨v,j,m⟩:=V;exact⟨.value v,w,G,v,by simp[j],.inl rfl,m,lU h⟩
def Ak{s:Sem Value}(V:∃v L Y,s.run P w=.ok v L/\VR Y c v/\Step B H.next G w H' L Y):yz P B H G w (do pure (.value (<-s))) c H':=by
 obtain⟨v,L,Y,j,m,C⟩:=V;exact⟨.value v,L,Y,v,by simp[j],.inl rfl,m,C⟩
def Pv{s:Sem Unit}(V:∃L,s.run P w=.ok () L/\Step B H.next G w H' L G):yz P B H G w (do s;pure .skip) dq H':=by
 obtain⟨L,j,m⟩:=V;exact⟨.skip,L,G,undef,by simp[j],.inr ⟨rfl,rfl⟩,Ck G,m⟩
def Pw{x:Option Operand}{c:qI}(z:∀y∈x.toArray,∀c,aM E y=some c->VR G c (a.eval y))(h:mB E x=some c):yA G c (x.map a.eval):=by
 unfold mB at h;split at h
 .simp only[am]at h;subst h;exact trivial
 .rename_i y;split at h
  .rename_i v j;simp only[am]at h;subst h;exact z y aB v j
  .simp at h
theorem Z7(Z:wR o=true)(I:yC G E a o.op.operands)(J:dL P D E H o.op=some (c,H')):tk P G w (execOp a.eval o) Next.value c H H':=by
 obtain⟨dst,op,ty,pos,C,guard⟩:=o;simp only[]at J I;cases op<;>simp only[wR,jd,dV]at Z
 case alloc t=>
  simp only[dL]at J;unfold BZ at J;split at J
  .rename_i z V;simp only[dB]at J;obtain⟨rfl,rfl⟩:=J;obtain⟨m,z1,z2⟩:=Ag V;refine tk.next ⟨.cells z 0 true,.cells (m.cells.toList++[]).toArray t,m.cells.toList.length+0,.pointer (some ⟨w.heap.size,0,none⟩),rfl,?_,.cells z m.cells.toList [] t (z2 G),fun Y hG=>.ptr (off:=0) hG⟩
   simp[Instr.alloc,z1,newVar,newRow]
  .simp at J
 case box t x=>
  simp only[dL]at J;unfold B0 at J;split at J
  .rename_i v O;simp only[dB]at J;obtain⟨rfl,rfl⟩:=J;have hx:=(I x gh _ O).cells;refine tk.next ⟨.cells v.cells 0 true,.cells ((a.eval x).cells.toList++[]).toArray t,(a.eval x).cells.toList.length+0,.pointer (some ⟨w.heap.size,0,none⟩),rfl,?_,.cells v.cells _ [] t hx,fun Y hG=>.ptr (off:=0) hG⟩
   simp[Instr.box,newVar,newRow]
  .simp at J
 case buildSlice t len parts=>
  simp only[dL]at J;unfold B3 at J;split at J
  .rename_i ps j;obtain⟨q1,q2⟩:=FP (G:=G) (a:=a) (fun p hp=>I p.2 (by simp only[Op.operands,List.mem_toArray,so];exact⟨p,hp,rfl⟩)) j;have:=Pi (P:=P) (w:=w) q1 q2 J;have he:(parts.toList.map fun x=>(x.1,a.eval x.2)).toArray=parts.map fun(i,x)=>(i,a.eval x):=by
    apply Ac;simp
   rw[he]at this;exact this.next
  .simp at J
 case makeMap t r=>
  simp only[dL]at J;unfold B6 at J;split at J
  .simp only[dB]at J;obtain⟨rfl,rfl⟩:=J;refine tk.next ⟨.map [],.map #[] 0,0,.map (some w.heap.size),rfl,?_,.map,fun Y hG=>.map hG⟩
   simp[Instr.makeMap]
  .simp at J
 case makeSlice t l c'=>
  simp only[dL]at J;unfold B7 at J;split at J
  .rename_i lv cv L hc;exact(Pj (I l gh _ L) (I c' gh _ hc) J).next
  .simp at J
 grind
theorem Z8(h:R B H w G)(I:yC G E a o.op.operands)(J:dL P B.cy.cS E H o.op=some (c,H')):yz P B H G w (execOp a.eval o) c H':=by
 obtain⟨dst,op,ty,pos,after,guard⟩:=o;simp only[]at J I;cases op<;>simp only[dL,reduceCtorEq]at J
 case move x=>
  obtain⟨j,rfl⟩:=mZ J;exact Ah h rfl (I x gh _ j)
 case assign x=>
  obtain⟨j,rfl⟩:=mZ J;exact Ah h rfl (I x gh _ j)
 case pick x y z=>
  unfold Fa at J;split at J
  .rename_i hc;obtain⟨j,rfl⟩:=mZ J;have hb:=I x gh _ hc;have:a.eval x=.bool true:=by generalize a.eval x=v at hb;cases hb;rfl
   exact Ah h (v:=a.eval y) (by simp[execOp,asBool,this]) (I y gh _ j)
  .rename_i hc;obtain⟨j,rfl⟩:=mZ J;have hb:=I x gh _ hc;have:a.eval x=.bool false:=by generalize a.eval x=v at hb;cases hb;rfl
   exact Ah h (v:=a.eval z) (by simp[execOp,asBool,this]) (I z gh _ j)
  .simp at J
 case alloc t=>
  unfold BZ at J;split at J
  .rename_i z hz;simp only[dB]at J;obtain⟨rfl,rfl⟩:=J;obtain⟨zv,z1,z2⟩:=Ag hz;have V:=FJ h (z2 G) [] t;rw[bq,FH]at V;refine Ak ⟨.pointer (some ⟨w.heap.size,0,none⟩),_,_,?_,?_,V⟩
   .simp[Instr.alloc,z1,newVar,newRow]
   .exact .ptr (off:=0) (vH _ _ _)
  .simp at J
 case box t x=>
  unfold B0 at J;split at J
  .rename_i v Y;simp only[dB]at J;obtain⟨rfl,rfl⟩:=J;have V:=FJ h (I x gh _ Y).cells [] t;rw[bq,FH]at V;refine Ak ⟨.pointer (some ⟨w.heap.size,0,none⟩),_,_,?_,?_,V⟩
   .simp[Instr.box,newVar,newRow]
   .exact .ptr (off:=0) (vH _ _ _)
  .simp at J
 case build t parts=>
  unfold Fc at J;split at J
  .rename_i ps L;obtain⟨j,rfl⟩:=mZ J;obtain⟨q1,q2⟩:=FP (G:=G) (a:=a) (fun p hp=>I p.2 Pk) L;have:=ZO (P:=P) (w:=w) q1 q2 j;have he:(parts.toList.map fun x=>(x.1,a.eval x.2)).toArray=parts.map fun(i,x)=>(i,a.eval x):=by
    grind
   rw[he]at this;exact nV h this
  .simp at J
 case buildSlice t len parts=>
  unfold B3 at J;split at J
  .rename_i ps L;obtain⟨q1,q2⟩:=FP (G:=G) (a:=a) (fun p hp=>I p.2 Pk) L;have:=(Pi (P:=P) (w:=w) q1 q2 J).sim h;have he:(parts.toList.map fun x=>(x.1,a.eval x.2)).toArray=parts.map fun(i,x)=>(i,a.eval x):=by
    grind
   rw[he]at this;exact Ak this
  .simp at J
 case load t x=>
  unfold B4 at J;split at J
  .rename_i v Y;obtain⟨j,rfl⟩:=mZ J;exact nV h (Pa h (I x gh _ Y) j)
  .simp at J
 case store t x y=>
  unfold Fe at J;split at J
  .rename_i av vv ha Y;split at J
   .rename_i H1 hs;simp only[dB]at J;obtain⟨rfl,rfl⟩:=J;exact Pv (Zv h (I x gh _ ha) (I y gh _ Y) hs)
   .simp at J
  .simp at J
 case nilCheck x=>
  unfold Fh at J;split at J
  .rename_i r off Y;simp only[dB]at J;obtain⟨rfl,rfl⟩:=J;have Z:=I x gh _ Y;refine Ah h (v:=a.eval x) ?_ Z;simp only[execOp];generalize a.eval x=v at Z⊢;cases Z;rfl
  .rename_i cs Y;simp only[dB]at J;obtain⟨rfl,rfl⟩:=J;have Z:=I x gh _ Y;refine Ah h (v:=a.eval x) ?_ Z;simp only[execOp];generalize a.eval x=v at Z⊢;cases Z;rfl
  .simp at J
 case binOp op t x y yt=>
  unfold Fk at J;split at J
  .rename_i O yv Z C;obtain⟨j,rfl⟩:=mZ J;exact nV h (ZK (by rw[h.val];exact h.ec) (I x gh _ Z) (I y gh _ C) j)
  .simp at J
 case unOp op t x=>
  unfold Fl at J;split at J
  .rename_i O Z;obtain⟨j,rfl⟩:=mZ J;exact nV h (ZL (I x gh _ Z) j)
  .simp at J
 case convert s d x=>
  unfold B5 at J;split at J
  .rename_i O Z;obtain⟨j,rfl⟩:=mZ J;exact nV h (Z6 h (I x gh _ Z) j)
  .simp at J
 case makeFunc fn first captured=>
  unfold Fm at J;split at J
  .rename_i f vs hfirst hvs;simp only[dB]at J;obtain⟨rfl,rfl⟩:=J;have hf:first=#[]:=aU
   subst hf;have:=F0 (G:=G) (a:=a) (fun x Z=>I x (by simp[Op.operands];simpa using Z)) hvs;refine nV h ⟨.func (.func f) #[] (captured.map a.eval),by simp[Instr.makeFunc],?_⟩;have he:captured.map a.eval=(captured.toList.map a.eval).toArray:=cU;rw[he];exact .cw this.1 this.2
  .simp at J
 case makeMap t r=>
  unfold B6 at J;split at J
  .simp only[dB]at J;obtain⟨rfl,rfl⟩:=J;exact Ak ⟨.map (some w.heap.size),_,_,by simp[Instr.makeMap],.map (vH _ _ _),Zk h⟩
  .simp at J
 case makeSlice t l c'=>
  unfold B7 at J;split at J
  .rename_i lv cv hl hc;exact Ak ((Pj (I l gh _ hl) (I c' gh _ hc) J).sim h)
  .simp at J
 case slice t x lo hi mx=>
  unfold B8 at J;split at J
  .rename_i O l hh Z hl hi';obtain⟨j,rfl⟩:=mZ J;exact nV h (ZR h (I x gh _ Z) (Pw (fun y C=>I y (by simp[Op.operands]at *;simp[C])) hl) (Pw (fun y C=>I y (by simp[Op.operands]at *;simp[C])) hi') j)
  .simp at J
 case fieldAddr t x f=>
  unfold Fo at J;split at J
  .rename_i O Z;obtain⟨j,rfl⟩:=mZ J;exact nV h (Zw (I x gh _ Z) j)
  .simp at J
 case field t x f=>
  unfold Fp at J;split at J
  .rename_i O Z;obtain⟨j,rfl⟩:=mZ J;exact nV h (Zx (I x gh _ Z) j)
  .simp at J
 case indexAddr t x i=>
  unfold Fs at J;split at J
  .rename_i O iv Z hi;obtain⟨j,rfl⟩:=mZ J;exact nV h (Zy (I x gh _ Z) (I i gh _ hi) j)
  .simp at J
 case index t x i=>
  unfold Ft at J;split at J
  .rename_i O iv Z hi;obtain⟨j,rfl⟩:=mZ J;exact nV h (Zz (I x gh _ Z) (I i gh _ hi) j)
  .simp at J
 case lookup t m k ok=>
  unfold B9 at J;split at J
  .rename_i mv kv hm hk;obtain⟨j,rfl⟩:=mZ J;exact nV h (Z1 h (I m gh _ hm) (I k gh _ hk) j)
  .simp at J
 case mapUpdate t m k v=>
  unfold Fv at J;split at J
  .rename_i mv kv vv hm hk Y;split at J
   .rename_i H1 hs;simp only[dB]at J;obtain⟨rfl,rfl⟩:=J;exact Pv (Z4 h (I m gh _ hm) (I k gh _ hk) (I v gh _ Y) hs)
   .simp at J
  .simp at J
 case extract x i=>
  unfold Fw at J;split at J
  .rename_i O Z;obtain⟨j,rfl⟩:=mZ J;exact nV h (ZA (I x gh _ Z) j)
  .simp at J
def Z9(h:R B H w G){keep:Bool}{b:Builtin}{L:Array TypeId}{ty:TypeId}{consts:qO}(j:cq G cs vs)(hb:uf P keep H b L.toList cs=some (c,H')):
 yz P B H G w (builtin b L ty consts vs.toArray) c H':=by
 unfold uf at hb;split at hb
 .split at hb
  .rename_i t u s x V;have Z:L=#[t,u]:=cU;subst Z
   match vs,j with
   |[sv,I],j=>
    obtain⟨Y,m⟩:=j.bv;obtain⟨C,_⟩:=m.bv;exact Ak (ZV h Y C hb)
   |[],j=>have:=j.1;simp at this
   |[_],j=>have:=j.1;simp at this
   |_::_::_::_,j=>have:=j.1;simp at this
  .simp at hb
 .split at hb
  .rename_i t x V;have Z:L=#[t]:=cU;subst Z;split at hb
   .rename_i v J;simp only[dB]at hb;obtain⟨rfl,rfl⟩:=hb
    match vs,j with
    |[I],j=>
     obtain⟨Y,_⟩:=j.bv;exact nV h (ZX h Y J)
    |[],j=>have:=j.1;simp at this
    |_::_::_,j=>have:=j.1;simp at this
   .simp at hb
  .simp at hb
 .split at hb
  .rename_i x z;split at hb
   .rename_i v O;simp only[dB]at hb;obtain⟨rfl,rfl⟩:=hb
    match vs,j with
    |[],j=>have:=j.1;simp at this
    |I::xvs,j=>
     obtain⟨Y,m⟩:=j.bv;have:=Kh (P:=P) (w:=w) Y m O;exact nV h (by simpa [Builtin.max_]using this)
   .simp at hb
  .simp at hb
 .split at hb
  .rename_i x z;split at hb
   .rename_i v O;simp only[dB]at hb;obtain⟨rfl,rfl⟩:=hb
    match vs,j with
    |[],j=>have:=j.1;simp at this
    |I::xvs,j=>
     obtain⟨Y,m⟩:=j.bv;have:=Kh (P:=P) (w:=w) Y m O;exact nV h (by simpa [Builtin.min_]using this)
   .simp at hb
  .simp at hb
 .simp at hb
end
def Km:AX->Exit
 | .normal=>.normal
 | .exit id=>.exit id
 | .ret=>.ret
def m1(B:Bs)(N O:Nat)(G:Gh)(w:World)(x:AX)(Z:aw)(H':Hp):Exit->Act->World->Prop:=fun e C L=>
 e=Km x/\∃Y,TR N Y Z C/\Step B O G w H' L Y/\C.defers=[]
structure Fit (P:Program):Prop where
 name:∀(f:FuncId) (fn:Func),P.funcs[f]?=some fn->fn.body.isSome=true->(fn.name == "runtime.NumGoroutine")=false
 mixed:P.follows .mixedOrders=true
structure Snd (P:Program) (B:Bs) (n:Nat) (ih:zd5->Res):Prop where
 call:∀f args H r H',ih (.call f args H)=.val r H'->∀G w vs,R B H w G->cq G args vs ->
  (∃fn,P.funcs[f]?=some fn/\fn.body.isSome=true)/\Calls P f vs.toArray w (fun e w'=>∃v G',e=.returned v/\VR G' r v/\Step B H.next G w H' w' G')
 aT:∀f N c E H x E' H',ih (.aT f N c E H)=.done x E' H'->∀G w a,R B H w G->TR N G E a->a.defers=[]->Code.wp P c (m1 B N H.next G w x E' H') a w
 loop:∀f N c E H x E' H',ih (.aT f N (.loop c) E H)=.done x E' H'->∀G w a,R B H w G->TR N G E a->a.defers=[]->Code.rounds P c (m1 B N H.next G w x E' H') n a w
theorem Kn{P:Program}{c:Code}{Q J:Exit->Act->World->Prop}(h:∀e a w,Q e a w->J e a w):∀{n:Nat}{a:Act}{w:World},Code.rounds P c Q n a w->Code.rounds P c J n a w
 |0,_,_,hr=>hr
 |n+1,_,_,hr=>by
  rw[rounds_succ]at *;exact w6 (fun e a w V=>by
   cases e with
   |normal=>exact Kn h V
   |_=>exact h _ _ _ V) hr
def m1.trans{B:Bs}{j:Hp}{x:AX}{m:aw}(Z:Step B O G w H' w' Y){e:Exit}{V:World}(h:m1 B N H'.next Y w' x m j e a V):m1 B N O G w x m j e a V:=by
 obtain⟨L,J,I,C,z⟩:=h;exact⟨L,J,I,Z.trans C,z⟩
def F3:=@m1.trans
section
variable {P:Program} {B:Bs} {G:Gh} {H H':Hp} {w:World}
def Ko(h:TR N G E a){x:Operand}(L:aM E x=some c):VR G c (a.eval x):=by
 cases x with
 |tmp t=>simp only[aM,am]at L;subst L;exact h.ca t
 |const v=>exact Af L
 |global g=>simp[aM]at L
 |func f=>simp only[aM,am]at L;subst L;exact .cw (vs:=[]) rfl aB
def TR.fQ(h:TR N G E a)(xs:Array Operand):yC G E a xs:=fun _ _ _ hc=>Ko h hc
theorem zaa{d:Nat}(h:VR G (E.at d) (a.tmps.getD d undef)):(match E.at d with|.bool b=>some b |_=>none)=(match a.tmps[d]? with|some (.bool b)=>some b |_=>none):=by
 rw[mY]at h;cases hd:a.tmps[d]? with
 |none=>
  rw[hd]at h;simp only[Option.getD_none,undef]at h;generalize E.at d=c at h;cases h;rfl
 |some v=>
  rw[hd]at h;simp only[bH]at h;generalize E.at d=c at h;cases h<;>rfl
theorem zab{j:Nat}(h:∀d,(ops[j]?).bind (·.dst)=some d->VR G (E.at d) (a.tmps.getD d undef)):Fx ops.toList E j=yielded ops a.tmps j:=by
 unfold Fx yielded;rw[Ka];cases hd:(ops[j]?).bind (·.dst)with
 |none=>rfl
 |some d=>exact zaa (h d hd)
theorem Px(h:∀j b d,o.guard=some (j,b)->(ops[j]?).bind (·.dst)=some d->VR G (E.at d) (a.tmps.getD d undef)):lj ops.toList E o=Region.wanted o (yielded ops a.tmps):=by
 unfold lj Region.wanted;cases hg:o.guard with
 |none=>rfl
 |some p=>
  obtain⟨j,b⟩:=p;simp only[];rw[zab (fun d hd=>h j b d hg hd)]
  grind
theorem Ga(fit:Fit P)(hih:Snd P B n ih){f:FuncId}(h:R B H w G)(hE:yC G E a o.op.operands)(J:eQ P B.cy ih f E H o.op=.val c H')
  (hK:∀v w' G',VR G' c v->Step B H.next G w H' w' G'->K (a.put o.dst v) w'):o.wp P a w K Q:=by
 have L:∀s:Sem Next,yz P B H G w s c H'->execOp a.eval o=s->o.wp P a w K Q:=fun s hs he=>by
  obtain⟨m,w',G',v,h1,h2,h3,h4⟩:=hs;unfold Oper.wp;rw[he,h1];rcases h2 with rfl|⟨rfl,rfl⟩
  .exact hK v w' G' h3 h4
  .exact hK undef w' G' h3 h4
 unfold eQ at J;split at J
 .rename_i z j;unfold wP at J;split at J
  .rename_i g hg;split at J
   .rename_i k cap vs hgv C;have O:yC G E a z.operands:=by rw[j]at hE;exact hE
    have hgr:=O g (by simp[Call.operands,hg]) _ hgv;have I:=F0 (G:=G) (a:=a) (fun x hx=>O x (by simp[Call.operands,hg];simp_all)) C;generalize hge:a.eval g=gv at hgr;cases hgr with
    |cw hl hv=>
     rename_i Y;have hall:=I.append (G:=G) ⟨hl,hv⟩;obtain⟨⟨fn,hfn,hbody⟩,Z⟩:=hih.call _ _ _ _ _ J G w _ h hall;have hname:=fit.name _ _ hfn hbody;unfold Oper.wp;have hrun:(execOp a.eval o).run P w=.ok (.enter k ((z.args.toList.map a.eval)++Y).toArray) w:=by
      have V:z.args.map a.eval=(z.args.toList.map a.eval).toArray:=by apply Ac;simp
      unfold execOp;rw[j];simp only[gS,resolve,hg,hge,Deferred.ofValue,nT,gT,invoke,callFunc,run_program,hfn,hname];simp only[dV,fK];have hb:fn.body.isNone=false:=by cases hb:fn.body<;>simp_all
      rw[hb];simp[V]
     rw[hrun];show Calls P k _ w _;refine Z.mono fun e w' hr=>?_
     grind
   .simp at J
  .rename_i b hg;split at J
   .rename_i vs C;split at J
    .rename_i v H1 hb;simp only[Res.val.injEq]at J;obtain⟨rfl,rfl⟩:=J;have O:yC G E a z.operands:=by rw[j]at hE;exact hE
     have I:=F0 (G:=G) (a:=a) (fun x hx=>O x (by simp[Call.operands,hg];simpa using hx)) C;have hs:=Z9 (ty:=o.type) (consts:=z.args.map fun|.const _=>true |_=>false) h I hb;refine L _ hs ?_;have V:z.args.map a.eval=(z.args.toList.map a.eval).toArray:=cU;unfold execOp;rw[j];simp only[resolve,hg,V];rfl
    .simp at J
   .simp at J
  .simp at J
 .rename_i op hne;unfold jr at J;split at J
  .rename_i v H1 ho;simp only[Res.val.injEq]at J;obtain⟨rfl,rfl⟩:=J;exact L _ (Z8 h hE ho) rfl
  .simp at J
theorem Kp(fit:Fit P){n:Nat}{ih:zd5->Res}(C:Snd P B n ih){f N:Nat}{ops:qQ}:∀(l:qE) {E E':aw}{H:Hp}{x:AX}{a:Act}{w:World}{G:Gh}{Q:Exit->Act->World->Prop},lR P B.cy ih f N ops.toList l E H=.done x E' H' ->
 R B H w G->TR N G E a->a.defers=[]->(∀e z L,m1 B N H.next G w x E' H' e z L->Q e z L)->wpList P ops Q l a w
 |[],E,E',H,x,a,w,G,Q,hr,h,ht,hd,hQ=>by
  simp only[lR,Res.done.injEq]at hr;obtain⟨rfl,rfl,rfl⟩:=hr;exact hQ _ _ _ ⟨rfl,G,ht,lU h,hd⟩
 |o::l,E,E',H,x,a,w,G,Q,hr,h,ht,hd,hQ=>by
  have hrec:∀E H,(List.rec (motive:=fun _=>aw->Hp->Res) (fun E H=>.done .normal E H)
   (fun o _ I E H=>match lj ops.toList E o with
     |true=>match eQ P B.cy ih f E H o.op with
      | .val v H=>mD I H (gI N E o.dst v)
      |_=>.a5
     |false=>mD I H (gI N E o.dst dq)) l E H:Res)=lR P B.cy ih f N ops.toList l E H:=fun _ _=>rfl
  have O:lR P B.cy ih f N ops.toList (o::l) E H=match lj ops.toList E o with
   |true=>match eQ P B.cy ih f E H o.op with
    | .val v H=>mD (lR P B.cy ih f N ops.toList l) H (gI N E o.dst v)
    |_=>.a5
   |false=>mD (lR P B.cy ih f N ops.toList l) H (gI N E o.dst dq):=rfl
  rw[O]at hr;have hw:=Px (G:=G) (E:=E) (a:=a) (ops:=ops) (o:=o) (fun _ _ d _ _=>ht.ca d);have Z:∀J v,(a.put J v).defers=[]:=fun J v=>by cases J<;>exact hd
  cases j:lj ops.toList E o with
  |true=>
   rw[j]at hr hw;simp only[]at hr;split at hr
   .rename_i v H1 Y;cases hp:gI N E o.dst v with
    |none=>rw[hp]at hr;simp[mD]at hr
    |some E1=>
     rw[hp]at hr;simp only[mD]at hr;unfold wpList;rw[ai hw.symm];refine .inl (Ga fit C h (ht.fQ _) Y fun v' L G' hv V=>?_);have m:TR N G' E1 (a.put o.dst v'):=(ht.mono V.ext).put hv hp;exact Kp fit C l hr V.r m (Z _ _) (fun e a w he=>hQ _ _ _ (F3 V he))
   .simp at hr
  |false=>
   rw[j]at hr hw;simp only[]at hr;cases hp:gI N E o.dst dq with
   |none=>rw[hp]at hr;simp[mD]at hr
   |some E1=>
    rw[hp]at hr;simp only[mD]at hr;unfold wpList;rw[ah (by rw[<-hw];simp)];exact Kp fit C l hr h (ht.put (Ck G) hp) (Z _ _) hQ
end
section
variable {P:Program} {B:Bs} {G:Gh} {H H':Hp} {w:World} {cfg:Cfg}
theorem Sx.bl:∀{a b:Sx},Sx.beq a b=true->a=b
 | .var i,b,h=>by
   cases b<;>simp only[Sx.beq,dV]at h;simp_all
 | .lit i,b,h=>by
   cases b<;>simp only[Sx.beq,dV,w1]at h;rw[h]
 | .de o k x y,b,h=>by
   cases b<;>simp only[Sx.beq,dV,lX]at h;obtain⟨⟨⟨rfl,rfl⟩,j⟩,m⟩:=h;rw[Sx.bl j,Sx.bl m]
 | .eB k x,b,h=>by
   cases b<;>simp only[Sx.beq,dV,lX]at h;obtain⟨rfl,j⟩:=h;rw[Sx.bl j]
mutual
theorem AV.bl:∀{a b:AV},AV.beq a b=true->a=b
 | .int k a,b,h=>by
   cases b<;>simp only[AV.beq,lX,w1,dV]at h;simp_all
 | .sx k a,b,h=>by
   cases b<;>simp only[AV.beq,lX,dV]at h;obtain⟨rfl,j⟩:=h;rw[Sx.bl j]
 | .bool a,b,h=>by
   cases b<;>simp only[AV.beq,w1,dV]at h;subst h;rfl
 | .ay a,b,h=>by
   cases b<;>simp only[AV.beq,w1,dV]at h;subst h;rfl
 | .aF,b,h=>by cases b<;>simp only[AV.beq,dV]at h;rfl
 | .bV,b,h=>by cases b<;>simp only[AV.beq,dV]at h;rfl
 | .cj,b,h=>by cases b<;>simp only[AV.beq,dV]at h;rfl
 | .ao,b,h=>by cases b<;>simp only[AV.beq,dV]at h;rfl
 | .ptr r o,b,h=>by
   cases b<;>simp only[AV.beq,bT,dV]at h;simp_all
 | .bP a,b,h=>by
   cases b<;>simp only[AV.beq,dV]at h;rw[tt h]
 | .sl r o l z,b,h=>by
   cases b<;>simp only[AV.beq,bT,dV]at h;simp_all
 | .aE a,b,h=>by
   cases b<;>simp only[AV.beq,dV]at h;rw[Py h]
 | .map r,b,h=>by
   cases b<;>simp only[AV.beq,dV]at h;simp_all
 | .cw f a,b,h=>by
   cases b<;>simp only[AV.beq,bT,dV]at h;rw[tm h.1,tt h.2]
 | .agg a,b,h=>by
   cases b<;>simp only[AV.beq,dV]at h;rw[tt h]
 | .bH a,b,h=>by
   cases b<;>simp only[AV.beq,dV]at h;rw[tt h]
theorem tt:∀{a b:qB},nP a b=true->a=b
 |[],b,h=>by cases b<;>simp only[nP,dV]at h;rfl
 |a::x,b,h=>by
  cases b<;>simp only[nP,bT,dV]at h;rw[AV.bl h.1,tt h.2]
theorem Py:∀{a b:List qB},yo a b=true->a=b
 |[],b,h=>by cases b<;>simp only[yo,dV]at h;rfl
 |a::x,b,h=>by
  cases b<;>simp only[yo,bT,dV]at h;rw[tt h.1,Py h.2]
end
theorem Pz{J β:Type}:∀{a b:List (J×β)},a.map (·.1)=b.map (·.1)->a.map (·.2)=b.map (·.2)->a=b
 |[],b,h,_=>by simp_all
 |(x,y)::a,b,h,C=>by
  cases b with
  |nil=>simp at h
  |cons c b=>
   obtain⟨u,v⟩:=c;simp only[eC,eX]at h C;obtain⟨rfl,h⟩:=h;obtain⟨rfl,C⟩:=C;rw[Pz h C]
def HB.bl{a b:HB}(h:HB.beq a b=true):a=b:=by
 cases a<;>cases b<;>simp only[HB.beq,bT,dV,w1]at h
 .obtain⟨⟨j,m⟩,C⟩:=h;rw[tt j,tm m,C]
 .rw[Pz (tt h.1) (tt h.2)]
def rE(P:Program)(cfg:Cfg)(ih:zd5->Res)(f N:Nat)(C:qE):List Rec->qE->aw->Hp->aw->Hp->Prop
 |[],[],E,H,E',H'=>E=E'/\H=H'
 |r::rs,o::l,E,H,E',H'=>r.o=o/\r.E=E/\r.H=H/\lj C E o=r.did/\(r.did=true->eQ P cfg ih f E H o.op=.val r.val r.H')/\(r.did=false->r.val=dq/\r.H'=H) /\
  ∃E1,gI N E o.dst r.val=some E1/\rE P cfg ih f N C rs l E1 r.H' E' H'
 |_,_,_,_,_,_=>False
theorem Cv{ih:zd5->Res}{f N:Nat}{C:qE}:∀{l:qE}{E E':aw}{H H':Hp}{rs:List Rec},lw P cfg ih f N C l E H=.done E' H' rs->rE P cfg ih f N C rs l E H E' H'
 |[],E,E',H,H',rs,h=>by
  simp only[lw,zf9.done.injEq]at h;obtain⟨rfl,rfl,rfl⟩:=h;exact⟨rfl,rfl⟩
 |o::l,E,E',H,H',rs,h=>by
  simp only[lw]at h;cases hw:lj C E o with
  |true=>
   rw[hw]at h;simp only[]at h;cases J:eQ P cfg ih f E H o.op with
   |val v H1=>
    rw[J]at h;simp only[]at h;cases hp:gI N E o.dst v with
    |none=>rw[hp]at h;simp[sf,se]at h
    |some E1=>
     rw[hp]at h;simp only[sf]at h;cases hr:lw P cfg ih f N C l E1 H1 with
     |a5=>rw[hr]at h;simp[se]at h
     |done I Z m=>
      rw[hr]at h;simp only[se,zf9.done.injEq]at h;obtain⟨rfl,rfl,rfl⟩:=h;exact⟨rfl,rfl,rfl,hw,fun _=>J,aB,E1,hp,Cv hr⟩
   |done _ _ _=>simp_all
   |a5=>simp_all
  |false=>
   rw[hw]at h;simp only[]at h;cases hp:gI N E o.dst dq with
   |none=>rw[hp]at h;simp[sf,se]at h
   |some E1=>
    rw[hp]at h;simp only[sf]at h;cases hr:lw P cfg ih f N C l E1 H with
    |a5=>rw[hr]at h;simp[se]at h
    |done I Z m=>
     rw[hr]at h;simp only[se,zf9.done.injEq]at h;obtain⟨rfl,rfl,rfl⟩:=h;exact⟨rfl,rfl,rfl,hw,aB,fun _=>⟨rfl,rfl⟩,E1,hp,Cv hr⟩
def iY(rs:List Rec)(Y:aw)(e:Nat):aw:=match rs[e]? with
 |some r=>r.E
 |none=>Y
theorem Kq{ih:zd5->Res}{f N:Nat}{C:qE}:∀{rs:List Rec}{l:qE}{E E':aw}{H H':Hp},rE P cfg ih f N C rs l E H E' H'->rs.length=l.length
 |[],[],_,_,_,_,_=>rfl
 |[],_::_,_,_,_,_,h=>by simp[rE]at h
 |_::_,[],_,_,_,_,h=>by simp[rE]at h
 |r::rs,o::l,E,E',H,H',h=>by
  obtain⟨_,_,_,_,_,_,E1,_,h⟩:=h;simp[Kq h]
def Kr{Y:aw}{H H':Hp}(h:rE P cfg ih f N C rs l E H Y H'):iY rs Y 0=E/\cH rs H' 0=H:=by
 cases rs with
 |nil=>
  cases l with
  |nil=>obtain⟨rfl,rfl⟩:=h;exact⟨rfl,rfl⟩
  |cons o l=>simp[rE]at h
 |cons r rs=>
  cases l with
  |nil=>simp[rE]at h
  |cons o l=>
   obtain⟨_,j,m,_⟩:=h;exact⟨by simp[iY,j],by simp[cH,m]⟩
structure AtD (P:Program) (cfg:Cfg) (ih:zd5->Res) (f N:Nat) (all:qE) (o:Oper) (r:Rec) (E E1:aw) (H H1:Hp):Prop where
 eo:r.o=o
 eE:r.E=E
 eH:r.H=H
 f5:lj all E o=r.did
 f2:r.did=true->eQ P cfg ih f E H o.op=.val r.val H1
 no:r.did=false->r.val=dq/\H1=H
 put:gI N E o.dst r.val=some E1
 eH':r.H'=H1
theorem yD{ih:zd5->Res}{f N:Nat}{C:qE}:∀{rs:List Rec}{l:qE}{E E':aw}{H H':Hp},rE P cfg ih f N C rs l E H E' H'->∀{i:Nat}{r:Rec},rs[i]?=some r ->
 ∃o,l[i]?=some o/\AtD P cfg ih f N C o r (iY rs E' i) (iY rs E' (i+1)) (cH rs H' i) (cH rs H' (i+1))
 |[],_,_,_,_,_,_,i,r,hr=>by simp at hr
 |r::rs,[],_,_,_,_,h,_,_,_=>by simp[rE]at h
 |r::rs,o::l,E,E',H,H',h,i,r',hr=>by
  obtain⟨j,m,Z,I,z,O,E1,h7,V⟩:=h;obtain⟨z1,z2⟩:=Kr V;cases i with
  |zero=>
   simp at hr;subst hr;have Y:iY (r::rs) E' 1=E1:=by rw[<-z1];simp[iY]
   have L:cH (r::rs) H' 1=r.H':=by rw[<-z2];simp[cH]
   have e3:iY (r::rs) E' 0=E:=by simp[iY,m]
   have e4:cH (r::rs) H' 0=H:=by simp[cH,Z]
   refine⟨o,rfl,?_⟩;rw[Y,L,e3,e4];exact⟨j,m,Z,I,z,fun J=>⟨(O J).1,(O J).2⟩,h7,rfl⟩
  |succ i=>
   obtain⟨o',g1,g2⟩:=yD V (i:=i) (r:=r') (by simpa using hr);have Y:∀k,iY (r::rs) E' (k+1)=iY rs E' k:=fun k=>by simp[iY]
   have L:∀k,cH (r::rs) H' (k+1)=cH rs H' k:=fun k=>by simp[cH]
   simp_all
def vI(op:Op):Bool:=match jd op with|.cR=>true |_=>false
def uo(op:Op):Bool:=match jd op with|.read=>true |_=>false
def zac{op:Op}(z:vI op=true):∃u,∀X,dL P D E X op=ret X u:=by
 cases op<;>simp only[vI,jd,dV]at z<;>simp only[dL]
 case move x=>exact⟨_,fun X=>rfl⟩
 case assign x=>exact⟨_,fun X=>rfl⟩
 case pick c a b=>
  unfold Fa;cases aM E c with
  |none=>exact⟨none,fun X=>rfl⟩
  |some v=>cases v with
   |bool t=>cases t<;>exact⟨_,fun X=>rfl⟩
   |_=>exact⟨none,fun X=>rfl⟩
 case build t parts=>
  unfold Fc;cases mV E parts.toList with
  |none=>exact⟨none,fun X=>rfl⟩
  |some Z=>exact⟨_,fun X=>rfl⟩
 case nilCheck x=>
  unfold Fh;cases aM E x with
  |none=>exact⟨none,fun X=>rfl⟩
  |some v=>cases v with
   |ptr r o=>exact⟨some (.ptr r o),fun X=>rfl⟩
   |bP O=>exact⟨some (.bP O),fun X=>rfl⟩
   |_=>exact⟨none,fun X=>rfl⟩
 case binOp op t x y yt=>
  unfold Fk;cases aM E x with
  |none=>exact⟨none,fun X=>rfl⟩
  |some v=>cases aM E y with
   |none=>exact⟨none,fun X=>rfl⟩
   |some u=>exact⟨_,fun X=>rfl⟩
 case unOp op t x=>
  unfold Fl;cases aM E x with
  |none=>exact⟨none,fun X=>rfl⟩
  |some v=>exact⟨_,fun X=>rfl⟩
 case makeFunc fn first captured=>
  unfold Fm;cases fn with
  |func f=>
   cases first.toList with
   |nil=>cases jE E captured.toList with
    |none=>exact⟨none,fun X=>rfl⟩
    |some vs=>exact⟨some (.cw f vs),fun X=>rfl⟩
   |cons _ _=>exact⟨none,fun X=>rfl⟩
  |_=>exact⟨none,fun X=>rfl⟩
 case fieldAddr t x f=>
  unfold Fo;cases aM E x with
  |none=>exact⟨none,fun X=>rfl⟩
  |some v=>exact⟨_,fun X=>rfl⟩
 case field t x f=>
  unfold Fp;cases aM E x with
  |none=>exact⟨none,fun X=>rfl⟩
  |some v=>exact⟨_,fun X=>rfl⟩
 case indexAddr t x i=>
  unfold Fs;cases aM E x with
  |none=>exact⟨none,fun X=>rfl⟩
  |some v=>cases aM E i with
   |none=>exact⟨none,fun X=>rfl⟩
   |some u=>exact⟨_,fun X=>rfl⟩
 case index t x i=>
  unfold Ft;cases aM E x with
  |none=>exact⟨none,fun X=>rfl⟩
  |some v=>cases aM E i with
   |none=>exact⟨none,fun X=>rfl⟩
   |some u=>exact⟨_,fun X=>rfl⟩
 case extract x i=>
  unfold Fw;cases aM E x with
  |none=>exact⟨none,fun X=>rfl⟩
  |some v=>exact⟨_,fun X=>rfl⟩
 all_goals exact⟨none,fun X=>rfl⟩
def Kt{op:Op}(z:vI op=true)(h:dL P D E H op=some (v,H')):H'=H/\∀X,dL P D E X op=some (v,X):=by
 obtain⟨u,m⟩:=zac (P:=P) (D:=D) (E:=E) z;rw[m]at h;obtain⟨rfl,rfl⟩:=mZ h;exact⟨rfl,fun X=>by rw[m];rfl⟩
theorem Ku{f:FuncId}{op:Op}(z:uo op=true)(h:eQ P cfg ih f E H op=.val v H'):H'=H:=by
 cases op<;>simp only[uo,jd,dV]at z<;>simp only[eQ,dL]at h
 case load t x=>
  unfold B4 at h;split at h
  .cases I:eP P H t ‹AV› <;>rw[I]at h<;>simp[ret,jr]at h;exact h.2.symm
  .simp[jr]at h
 case slice t x lo hi mx=>
  unfold B8 at h;split at h
  .rename_i Z lv j _ _ _;cases I:sc P H t Z lv j<;>rw[I]at h<;>simp[ret,jr]at h;exact h.2.symm
  .simp[jr]at h
 case convert s d x=>
  unfold B5 at h;split at h
  .cases I:mW P H s d ‹AV› <;>rw[I]at h<;>simp[ret,jr]at h;exact h.2.symm
  .simp[jr]at h
 case lookup t m k ok=>
  unfold B9 at h;split at h
  .rename_i mv Y _ _;cases I:sd P H t mv Y ok<;>rw[I]at h<;>simp[ret,jr]at h;exact h.2.symm
  .simp[jr]at h
 case call c=>
  unfold wP at h;cases hc:c.callee with
  |value g=>simp_all
  |invoke g m=>simp_all
  |builtin b=>
   rw[hc]at z h;simp only[]at h;split at h
   .rename_i vs _;cases b<;>simp only[dV]at z<;>simp only[uf]at h;all_goals
     split at h
     .rename_i V H1 hb;simp only[Res.val.injEq]at h;obtain⟨rfl,rfl⟩:=h;split at hb
      .split at hb
       .simp only[dB]at hb;exact hb.2.symm
       .simp at hb
      .simp at hb
     .simp at h
   .simp at h
theorem zad(z:wR o=true)(h:dL P D E H o.op=some (v,H')):∃j,H'=H.alloc j:=by
 obtain⟨J,op,m,Z,C,guard⟩:=o;simp only[]at h;cases op<;>simp only[wR,jd,dV]at z<;>simp only[dL,reduceCtorEq]at h
 case alloc t=>
  unfold BZ at h
  grind
 case box t x=>
  unfold B0 at h
  grind
 case buildSlice t len parts=>
  unfold B3 at h;split at h
  .unfold eW at h
   grind
  .simp at h
 case makeMap t r=>
  unfold B6 at h
  grind
 case makeSlice t l c=>
  unfold B7 at h;split at h
  .unfold jq at h;(repeat' split at h)<;>first|(simp only[dB]at h;exact⟨_,h.2.symm⟩)|simp at h
  .simp at h
theorem yE{f:FuncId}{op:Op}(J:∀c,op≠.call c):eQ P cfg ih f E H op=.val v H'↔dL P cfg.cS E H op=some (v,H'):=by
 have:eQ P cfg ih f E H op=jr (dL P cfg.cS E H op):=by
  unfold eQ;simp_all
 rw[this];cases dL P cfg.cS E H op with
 |none=>simp[jr]
 |some p=>obtain⟨a,b⟩:=p;simp[jr]
theorem zae{f:FuncId}(z:pA o=false)(h:eQ P cfg ih f E H o.op=.val v H'):H'=H\/∃j,H'=H.alloc j:=by
 cases Y:jd o.op with
 |eh=>simp[pA,Y]at z
 |read=>exact .inl (Ku (by simp[uo,Y]) h)
 |cR=>
  have J:∀c,o.op≠.call c:=fun c e=>by
   rw[e]at Y;simp only[jd]at Y
   grind
  exact .inl (Kt (P:=P) (by simp[vI,Y]) ((yE J).1 h)).1
 |make=>
  have J:∀c,o.op≠.call c:=fun c e=>by
   rw[e]at Y;simp only[jd]at Y
   grind
  exact .inr (zad (by simp[wR,Y]) ((yE J).1 h))
end
theorem Kv{i:Nat}:∀{l J:qG},i∈zZ J l↔i∈J\/i∈l
 |[],J=>by simp[zZ]
 |x::xs,J=>by
  simp only[zZ];split
  .rename_i h;have I:x∈J:=lV;rw[Kv,eJ]
   grind
  .rw[Kv,eJ,eJ]
   grind
def zaf{l:qG}:i∈Ca l↔i∈l:=by unfold Ca;rw[Kv];simp
theorem Kw:∀(l:qE) (J:List qG) (i:Nat),i<J.length->(j0 l J).getD i []=J.getD i []
 |[],J,i,_=>rfl
 |o::l,J,i,h=>by
  simp only[j0];rw[Kw l _ i cZ]
  grind
theorem PA:∀(l:qE) (J:List qG) (j:Nat) (o:Oper),l[j]?=some o ->
 ∃V:List qG,V.length=J.length+j/\(∀i,i<V.length->(j0 l J).getD i []=V.getD i [])/\(j0 l J).getD (J.length+j) []=Ca (preds o++(preds o).flatMap fun i=>V.getD i [])
 |[],_,_,_,h=>by simp at h
 |o::l,J,0,o',h=>by
  simp at h;subst h;refine⟨J,rfl,fun i O=>Kw _ _ i O,?_⟩;simp only[j0,wY];rw[Kw l _ J.length aB];simp[List.getD]
 |o::l,J,j+1,o',h=>by
  obtain⟨V,Z,m,C⟩:=PA l (J++[Ca (preds o++(preds o).flatMap fun i=>J.getD i [])]) j o' lV;simp only[fx,pD]at Z C;refine⟨V,ac,m,?_⟩;simp only[j0]
  grind
theorem zag{j:Nat}(I:l[j]?=some o)(m:∀p∈preds o,p<j):
 i∈(j0 l []).getD j []↔i∈preds o\/∃p∈preds o,i∈(j0 l []).getD p []:=by
 obtain⟨V,Z,Y,C⟩:=PA l [] j o I;simp only[jQ,bR]at Z C;rw[C,zaf,uk,List.mem_flatMap]
 grind
structure znN (l:qE):Prop where
 lt:∀j o,l[j]?=some o->∀p∈preds o,p<j
 guard:∀j o g b,l[j]?=some o->o.guard=some (g,b)->g∈(j0 l []).getD j []
 clash:∀i j p q,i<j->l[i]?=some p->l[j]?=some q->Ab.clash l p q=true->i∈(j0 l []).getD j []
theorem zah(h:ug l=true):znN l:=by
 unfold ug at h;simp only[js,tq]at h;have Z:∀j o,l[j]?=some o->(∀p∈preds o,p<j)/\(∀g b,o.guard=some (g,b)->g∈(j0 l []).getD j [])/\∀i p,i<j->l[i]?=some p->Ab.clash l p o=true->i∈(j0 l []).getD j []:=fun j o I=>by
  grind
 exact⟨fun j o I=>(Z j o I).1,fun j o g b I=>(Z j o I).2.1 g b,fun i j p q z O Y=>(Z j q Y).2.2 i p z O⟩
theorem Kx(L:znN l){D:Nat->Prop}(J:∀j,D j->∀o,l[j]?=some o->∀p∈preds o,D p):
 ∀(j:Nat) o,l[j]?=some o->(∀p∈preds o,D p)->∀i∈(j0 l []).getD j [],D i:=by
 intro j;induction j using Nat.strongRecOn with
 |_ j ih=>
  intro o I hp i O;rcases(zag I (L.lt j o I)).1 O with h|⟨p,V,Y⟩
  .exact hp i h
  .have C:=L.lt j o I p V
   grind
theorem ss:i∈mC l↔∃o,l[i]?=some o/\pA o=true:=by
 unfold mC
 grind
theorem nW:i∈Region.ready .any ops z↔∃o,ops.toList[i]?=some o/\z.getD i true=false/\∀p∈preds o,z.getD p false=true:=by
 unfold Region.ready preds;rw[FX,tq,Ka];constructor
 .rintro⟨j,m⟩;rw[w7 j]at m;simp only[bT,ul,lB,bH,Array.all_eq_true_iff_forall_mem,nU]at m;refine⟨_,w7 j,m.1,fun p hp=>?_⟩;simp only[so,FX]at hp;obtain⟨e,⟨Y,Z⟩,rfl⟩:=hp;rcases m.2 e FC with h|h
  .rw[Z]at h;simp at h
  .exact h
 grind
theorem Ky{l:qE}:∀(k s:Nat),s+k=l.length->∃m,s<=m/\m<=l.length/\(m=l.length\/m∈mC l)/\∀j,s<=j->j<m->j∉mC l
 |0,s,hs=>⟨s,aG _,ac,.inl ac,fun j Z Y=>ac⟩
 |k+1,s,hs=>by
  by_cases h:s∈mC l
  .grind
  .obtain⟨m,Z,Y,C,V⟩:=Ky (l:=l) k (s+1) ac
   grind
section
variable {P:Program} {B:Bs} {cfg:Cfg}
structure Ctx (P:Program) (cfg:Cfg) (ih:zd5->Res) (f N:Nat) (l:qE) (E0:aw) (bZ:Hp) (E':aw) (H':Hp) (rs:List Rec):Prop where
 cR:znN l
 len:rs.length=l.length
 fb:∀(i:Nat) (r:Rec),rs[i]?=some r->∃o,l[i]?=some o/\AtD P cfg ih f N l o r (iY rs E' i) (iY rs E' (i+1)) (cH rs H' i) (cH rs H' (i+1))
 zeroE:iY rs E' 0=E0
 fG:cH rs H' 0=bZ
 next:∀i,i<l.length->(cH rs H' i).next<=(cH rs H' (i+1)).next
 cu:∀(i:Nat) (r:Rec),rs[i]?=some r->r.did=true->∀m,(m∈mC l\/m=l.length)->(∀e∈mC l,e∈(j0 l []).getD i []->e<m)->(∀e∈mC l,i∈(j0 l []).getD e []->m<=e) ->
  ze6 P cfg r (cH rs H' m)=true
theorem zai{bZ:Hp}(hc:ug l=true)(hr:lw P cfg ih f N l l E0 bZ=.done E' H' rs)(V:yp P cfg (sg l) rs H'=true):
 Ctx P cfg ih f N l E0 bZ E' H' rs:=by
 have j:=Cv hr;obtain⟨z1,z2⟩:=Kr j;have L:=Kq j;unfold yp at V;simp only[bT,js]at V;refine⟨zah hc,L,fun i r O=>yD j O,z1,z2,fun i O=>?_,fun i r O hd m hm h1 h2=>?_⟩
 .have J:i<rs.length:=by omega
  have Z:=aX J;obtain⟨o,_,Y⟩:=yD j Z;have h3:=FU (V.1 _ (cV Z));rw[Y.eH,Y.eH']at h3;exact h3
 .obtain⟨o,ho,Y⟩:=yD j O;have C:JN (j0 l []) (mC l) i m=true:=by
   unfold JN;simp_all
  have hin:∀k,jd o.op=k->(k=.read\/k=.make)->(i,m)∈sg l:=fun k z hor=>by
   unfold sg
   grind
  have hsame:(i,m)∈sg l->ze6 P cfg r (cH rs H' m)=true:=fun h=>by
   grind
  have I:r.o=o:=Y.eo;cases z:jd o.op with
  |read=>simp_all
  |make=>simp_all
  |cR=>unfold ze6;rw[I,z]
  |eh=>unfold ze6;rw[I,z]
section
variable {ih:zd5 -> Res} {f N:Nat} {ops:qQ} {E0 E':aw} {bZ H':Hp} {rs:List Rec} (cx:Ctx P cfg ih f N ops.toList E0 bZ E' H' rs)
include cx
theorem Ctx.dY(I:ops.toList[i]?=some o):∃r,rs[i]?=some r/\AtD P cfg ih f N ops.toList o r (iY rs E' i) (iY rs E' (i+1)) (cH rs H' i) (cH rs H' (i+1)):=by
 have O:i<rs.length:=by rw[cx.len];exact(gR.1 I).1
 obtain⟨j,Z,m⟩:=cx.fb i _ (aX O);simp_all
theorem Ctx.gb:∀(d s:Nat),s+d<=ops.toList.length->(∀j,s<=j->j<s+d->j∉mC ops.toList) ->
 (cH rs H' s).next<=(cH rs H' (s+d)).next/\∀r,r<(cH rs H' s).next->(cH rs H' (s+d)).get r=(cH rs H' s).get r
 |0,s,_,_=>⟨aG _,fun _ _=>rfl⟩
 |d+1,s,hs,hn=>by
  obtain⟨h1,J⟩:=Ctx.gb d s ac (fun j I Y=>hn j I ac);have C:s+d<ops.toList.length:=ac;obtain⟨r,hr,m⟩:=cx.dY (aX C);have L:pA (ops.toList[s+d])=false:=by
   cases z:pA (ops.toList[s+d])with
   |false=>rfl
   |true=>exact(hn (s+d) ac ac (ss.2 ⟨_,aX C,z⟩)).elim
  have O:cH rs H' (s+d+1)=cH rs H' (s+d)\/∃Z,cH rs H' (s+d+1)=(cH rs H' (s+d)).alloc Z:=by
   cases hd:r.did with
   |true=>exact zae L (m.f2 hd)
   |false=>exact .inl (m.no hd).2
  rw[show s+(d+1)=s+d+1 by omega];rcases O with e|⟨Z,e⟩
  .simp_all
  .rw[e];refine⟨cZ,fun k V=>?_⟩;rw[aL,ah ac];exact J k V
theorem Ctx.b8:∀(d s:Nat),s+d<=ops.toList.length->(cH rs H' s).next<=(cH rs H' (s+d)).next
 |0,_,_=>aG _
 |d+1,s,hs=>dt (Ctx.b8 d s ac) (by rw[show s+(d+1)=s+d+1 by omega];exact cx.next _ ac)
theorem Ctx.el(t:Nat):∀s,s<=ops.toList.length ->
 (∃(i:Nat) (r:Rec) (o:Oper),i<s/\rs[i]?=some r/\ops.toList[i]?=some o/\o.dst=some t/\(∀(j:Nat) (V:Oper),j<s->ops.toList[j]?=some V->V.dst=some t->j<=i)/\(iY rs E' s).at t=r.val) \/
 ((∀(j:Nat) (V:Oper),j<s->ops.toList[j]?=some V->V.dst≠some t)/\(iY rs E' s).at t=E0.at t)
 |0,_=>.inr ⟨fun j V L=>ac,by rw[cx.zeroE]⟩
 |s+1,hs=>by
  have I:ops.toList[s]?=some (ops.toList[s]' ac):=aX ac;obtain⟨r,hr,m⟩:=cx.dY I;have Z:=m.put;have J:=Ctx.el t s ac;by_cases hd:(ops.toList[s]' ac).dst=some t
  .refine .inl ⟨s,r,_,ac,hr,I,hd,fun j V L _ _=>ac,?_⟩;rw[hd]at Z;simp only[gI]at Z;split at Z
   .simp only[am]at Z;rw[<-Z,Ae,ai rfl]
   .simp at Z
  .have O:(iY rs E' (s+1)).at t=(iY rs E' s).at t:=by
    cases Y:(ops.toList[s]' ac).dst with
    |none=>
     rw[Y]at Z;simp only[gI,am]at Z;rw[<-Z]
    |some d=>
     rw[Y]at Z hd;simp only[gI]at Z;split at Z
     .simp only[am]at Z;rw[<-Z,Ae,ah (fun e=>hd oF)]
     .simp at Z
   grind
end
def iN(z:qO)(j:Nat):Prop:=z.getD j false=true
def Al(rs:List Rec)(l:qE)(z:aw)(D:Nat->Prop)(G:Gh)(a:Act):Prop:=∀t,
 (∃(i:Nat) (r:Rec) (o:Oper),D i/\rs[i]?=some r/\l[i]?=some o/\o.dst=some t/\(∀(j:Nat) (Z:Oper),D j->l[j]?=some Z->Z.dst=some t->j<=i)/\VR G r.val (a.tmps.getD t undef)) \/
 ((∀(j:Nat) (Z:Oper),D j->l[j]?=some Z->Z.dst≠some t)/\VR G (z.at t) (a.tmps.getD t undef))
theorem Al.ft{bZ:Hp}(cx:Ctx P cfg ih f N ops.toList E0 bZ E' H' rs){D:Nat->Prop}(hs:Al rs ops.toList E0 D G a){t:Nat}
 (Z:s<=ops.toList.length) (L:∀(j:Nat) (o:Oper),ops.toList[j]?=some o->o.dst=some t->(D j↔j<s)):VR G ((iY rs E' s).at t) (a.tmps.getD t undef):=by
 rcases cx.el t s Z with⟨i,r,o,h1,m,h3,h4,h5,h6⟩|⟨h1,m⟩
 .rw[h6];have z:=(L i o h3 h4).2 h1;rcases hs t with⟨I,r',V,C,Y,O,J,g5,g6⟩|⟨C,_⟩
  .have e1:=h5 I V ((L I V O J).1 C) O J;have e2:=g5 i o z h3 h4;have:I=i:=ac;subst this;rw[m]at Y;simp only[am]at Y;subst Y;exact g6
  grind
 .rw[m];rcases hs t with⟨I,r',V,C,Y,O,J,g5,g6⟩|⟨_,Y⟩
  .grind
  .exact Y
structure InvD (rs:List Rec) (l:qE) (N:Nat) (B:Bs) (nx0:Nat) (E0:aw) (H':Hp) (G0:Gh) (w0:World) (listed:qO) (a:Act) (w:World) (m:Nat) (G:Gh):Prop where
 size:listed.size=l.length
 cP:∀j,iN listed j->∀o,l[j]?=some o->∀p∈preds o,iN listed p
 le:m<=l.length
 eh:m=l.length\/m∈mC l
 cK:¬iN listed m
 fE:∀e∈mC l,e<m->iN listed e
 step:Step B nx0 G0 w0 (cH rs H' m) w G
 dj:∀r p,G.β r=some p->r<nx0\/∃j,iN listed j/\j<l.length/\(cH rs H' j).next<=r/\r<(cH rs H' (j+1)).next
 ca:Al rs l E0 (iN listed) G a
 frame:a.tmps.size=N
 defers:a.defers=[]
theorem iN.set(O:i<z.size)(j:Nat):iN (z.setIfInBounds i true) j↔j=i\/iN z j:=by
 unfold iN;rw[mY,mY,Cf]
 grind
def oH:=@iN.set
theorem Al.put{rs:List Rec}{l:qE}{E0:aw}{z:qO}{G C:Gh}{a:Act}(hs:Al rs l E0 (iN z) G a)(he:Ext G C){i:Nat}(L:i<z.size){o:Oper}(ho:l[i]?=some o){r:Rec}(hr:rs[i]?=some r)
 {v:Value} (hv:VR C r.val v) (hd:∀d,o.dst=some d->d<a.tmps.size/\∀(j:Nat) (V:Oper),iN z j->l[j]?=some V->V.dst=some d->j<=i):Al rs l E0 (iN (z.setIfInBounds i true)) C (a.put o.dst v):=by
 intro t;by_cases Z:o.dst=some t
 .obtain⟨h1,h2⟩:=hd t Z;refine .inl ⟨i,r,o,(oH L i).2 (.inl rfl),hr,ho,Z,fun j V I m O=>?_,?_⟩
  .rcases(oH L j).1 I with e|I
   .omega
   simp_all
  .rw[Z];simp only[Act.put];simp_all
 .have Y:(a.put o.dst v).tmps.getD t undef=a.tmps.getD t undef:=by
   cases J:o.dst with
   |none=>rfl
   |some d=>
    rw[J]at Z;have hne:d≠t:=fun e=>Z oF;simp only[Act.put,mY,Cf];rw[ah hne]
  rw[Y];rcases hs t with⟨i',r',V,g1,g2,g3,g4,g5,g6⟩|⟨g1,g2⟩
  .refine .inl ⟨i',r',V,(oH L i').2 (.inr g1),g2,g3,g4,fun j o'' I m O=>?_,g6.mono he⟩;rcases(oH L j).1 I with e|I
   .subst e;rw[ho]at m;simp only[am]at m;subst m;exact(Z O).elim
   simp_all
  .refine .inr ⟨fun j V I m O=>?_,g2.mono he⟩;rcases(oH L j).1 I with e|I
   .subst e;rw[ho]at m;simp only[am]at m;subst m;exact(Z O).elim
   grind
theorem Kz{t:Nat}:t∈wQ C o↔o.dst=some t\/(Operand.tmp t)∈o.op.operands.toList\/∃g b j,o.guard=some (g,b)/\C[g]?=some j/\j.dst=some t:=by
 unfold wQ OW
 grind
theorem PB{p q:Oper}{d:Nat}(h:(p.dst=some d/\d∈wQ C q)\/(q.dst=some d/\d∈wQ C p)):Ab.clash C p q=true:=by
 unfold Ab.clash;rcases h with⟨j,m⟩|⟨j,m⟩
 .rw[j];simp[m]
 simp_all
def Step.ei{Y:Nat}{Z:Hp}{L O:Gh}{V:World}(h:Step B Y G w H' w' L)(k:Step B Y L w' Z V O):Step B Y G w Z V O:=
 ⟨k.r,h.ext.trans k.ext,h.fr.trans k.fr h.new,h.new.trans k.new h.fr.size,fun r p hr=>by
  rcases k.dj r p hr with j|j
  .exact h.dj r p j
  .exact .inr j,k.mono,fun b o v J=>by
  rcases k.dB b o v J with j|j
  .exact h.dB b o v j
  .exact .inr j⟩
def Step.dS(h:Step B Z G w H' w' Y)(J:O<=Z):Step B O G w H' w' Y:=
 ⟨h.r,h.ext,h.fr,h.new,fun r p hr=>(h.dj r p hr).imp id (fun e=>dt J e),dt J h.mono,h.dB⟩
def Snd.a5(P:Program)(B:Bs):Snd P B 0 (fun _=>.a5):=
 ⟨fun _ _ _ _ _ h=>rD,fun _ _ _ _ _ _ _ _ h=>rD,fun _ _ _ _ _ _ _ _ h=>rD⟩
theorem zaj(fit:Fit P)(hih:Snd P B n ih){nx0:Nat}{bZ:Hp}(cx:Ctx P B.cy ih f N ops.toList E0 bZ E' H' rs)(hnx:bZ.next=nx0)
 {m:Nat} (C:InvD rs ops.toList N B nx0 E0 H' G0 w0 z a w m G)  (hi:i∈Region.ready .any ops z) 
 (hK:∀a' w' m' G',InvD rs ops.toList N B nx0 E0 H' G0 w0 (z.setIfInBounds i true) a' w' m' G'->K a' w'):wpOp P ops Q i K a w:=by
 obtain⟨o,ho,hun,hpr⟩:=nW.1 hi;obtain⟨r,hr,ha⟩:=cx.dY ho;have hil:i<ops.toList.length:=(gR.1 ho).1;have L:i<z.size:=cU;have hnot:¬iN z i:=fun hd=>by
  unfold iN at hd;simp_all
 -- what comes before i is done;what comes behind it is not
 have O:∀j∈(j0 ops.toList []).getD i [],iN z j:=Kx cx.cR C.cP i o ho hpr;have hbehind:∀j,iN z j->∀oj,ops.toList[j]?=some oj->i∉(j0 ops.toList []).getD j []:=fun j hj oj hoj hm=>
  hnot (Kx cx.cR C.cP j oj hoj (C.cP j hj oj hoj) i hm)
 -- the writers of the slots that i names
 have hagree:∀t∈wQ ops.toList o,∀(j:Nat) (oj:Oper),ops.toList[j]?=some oj->oj.dst=some t->(iN z j↔j<i):=fun t ht j oj hoj hjd=>by
  constructor
  .intro hj;rcases FY j i with h|h|h
   .exact h
   .simp_all
   .exact(hbehind j hj oj hoj (cx.cR.clash i j o oj h ho hoj (PB (.inr ⟨hjd,ht⟩)))).elim
  .intro hj;exact O j (cx.cR.clash j i oj o hj hoj ho (PB (.inl ⟨hjd,ht⟩)))
 have hslot:∀t∈wQ ops.toList o,VR G ((iY rs E' i).at t) (a.tmps.getD t undef):=fun t ht=>C.ca.ft cx (Nat.le_of_lt hil) (hagree t ht);have I:yC G (iY rs E' i) a o.op.operands:=fun x hx c hc=>by
  cases x with
  |tmp t=>simp only[aM,am]at hc;subst hc;exact hslot t (Kz.2 (.inr (.inl (by simpa using hx))))
  |const v=>exact Af hc
  |global g=>simp[aM]at hc
  |func f=>simp only[aM,am]at hc;subst hc;exact .cw (vs:=[]) rfl aB
 have hwant:=Px (G:=G) (E:=iY rs E' i) (a:=a) (ops:=ops) (o:=o) (fun g b d hg hd=>by
  simp only[aC]at hd;obtain⟨o',h1,h2⟩:=hd;exact hslot d (Kz.2 (.inr (.inr ⟨g,b,o',hg,aU,h2⟩))))
 have hdst:∀d,o.dst=some d->d<a.tmps.size/\∀(j:Nat) (o':Oper),iN z j->ops.toList[j]?=some o'->o'.dst=some d->j<=i:=fun d hd=>by
  refine⟨?_,fun j o' hj hjo hjd=>Nat.le_of_lt ((hagree d (Kz.2 (.inl hd)) j o' hjo hjd).1 hj)⟩;have hp:=ha.put;rw[hd]at hp;simp only[gI]at hp;split at hp
  .rename_i hb;rw[C.frame];simp_all
  .simp at hp
 have hclosed':∀j,iN (z.setIfInBounds i true) j->∀oj,ops.toList[j]?=some oj->∀p∈preds oj,iN (z.setIfInBounds i true) p:=fun j hj oj hoj p hp=>by
  rcases(oH L j).1 hj with rfl|hj
  .rw[ho]at hoj;simp only[am]at hoj;subst hoj;exact(oH L p).2 (.inr (hpr p hp))
  .exact(oH L p).2 (.inr (C.cP j hj oj hoj p hp))
 -- an act comes up in its turn
 have hturn:pA o=true->i=m:=fun hact=>by
  have Z:i∈mC ops.toList:=ss.2 ⟨o,ho,hact⟩;rcases FY i m with h|h|h
  .exact(hnot (C.fE i Z h)).elim
  .exact h
  .rcases C.eh with e|e
   .omega
   .obtain⟨om,hom,hactm⟩:=ss.1 e;exact(C.cK (O m (cx.cR.clash m i om o h hom ho J7))).elim
 -- how the invariant goes on
 have hfin:∀(v:Value) (w':World) (G':Gh) (X:Hp),VR G' r.val v->Step B nx0 G w X w' G' ->
  (∀k p,G'.β k=some p->G.β k=some p\/((cH rs H' i).next<=k/\k<(cH rs H' (i+1)).next)) ->
  ((i≠m/\X=cH rs H' m)\/(i=m/\X=cH rs H' (i+1)))->K (a.put o.dst v) w':=fun v w' G' X hv V hlow hX=>by
  have hslots':=C.ca.put V.ext L ho hr hv hdst;have hlow':∀k p,G'.β k=some p->k<nx0\/∃j,iN (z.setIfInBounds i true) j/\j<ops.toList.length/\(cH rs H' j).next<=k/\k<(cH rs H' (j+1)).next:=fun k p hk=>by
   rcases hlow k p hk with h|h
   .rcases C.dj k p h with h|⟨j,h1,h2⟩
    .exact .inl h
    .exact .inr ⟨j,(oH L j).2 (.inr h1),h2⟩
   .exact .inr ⟨i,(oH L i).2 (.inl rfl),hil,h⟩
  have hframe':(a.put o.dst v).tmps.size=N:=by rw[<-C.frame];cases o.dst<;>simp[Act.put]
  have hdef':(a.put o.dst v).defers=[]:=by have:=C.defers;cases o.dst<;>exact this
  rcases hX with⟨hne,rfl⟩|⟨rfl,rfl⟩
  .refine hK _ _ m G' ⟨by simpa using C.size,hclosed',C.le,C.eh,fun hd=>?_,fun e he hlt=>(oH L e).2 (.inr (C.fE e he hlt)),C.step.ei V,hlow',hslots',hframe',hdef'⟩;rcases(oH L m).1 hd with h|h
   .exact hne h.symm
   .exact C.cK h
  ·-- the next act
   obtain⟨m',q1,q2,q3,q4⟩:=Ky (l:=ops.toList) (ops.toList.length-(i+1)) (i+1) ac;obtain⟨g1,g2⟩:=cx.gb (m'-(i+1)) (i+1) ac (fun j h1 h2=>q4 j h1 ac);rw[show i+1+(m'-(i+1))=m' by omega]at g1 g2;have hst2:Step B nx0 G0 w0 (cH rs H' m') w' G':=by
    have:=C.step.ei V;exact⟨this.r.more g1 g2,this.ext,this.fr,this.new,this.dj,dt this.mono g1,this.dB⟩
   have hact:∀e∈mC ops.toList,e<m'->iN (z.setIfInBounds i true) e:=fun e he hlt=>by
    by_cases h:e<i
    .exact(oH L e).2 (.inr (C.fE e he h))
    .by_cases h2:e=i
     .exact(oH L e).2 (.inl h2)
     grind
   refine hK _ _ m' G' ⟨by simpa using C.size,hclosed',q2,q3,fun hd=>?_,hact,hst2,hlow',hslots',hframe',hdef'⟩;rcases(oH L m').1 hd with h|h
   .omega
   ·-- m' is done though i,an act before it,was not
    have hm'l:m'<ops.toList.length:=by
     rcases Nat.lt_or_ge m' ops.toList.length with h3|h3
     .exact h3
     .unfold iN at h;rw[mY,Array.getElem?_eq_none (by rw[C.size];exact h3)]at h;simp at h
    rcases q3 with e|e
    .omega
    .obtain⟨om,hom,hactm⟩:=ss.1 e;rcases C.eh with e2|e2
     .omega
     .obtain⟨oi,hoi,hacti⟩:=ss.1 e2;rw[ho]at hoi;simp only[am]at hoi;subst hoi;exact hbehind m' h om hom (cx.cR.clash i m' o om ac ho hom J7)
 -- the range of m for the looks
 have hlo:∀e∈mC ops.toList,e∈(j0 ops.toList []).getD i []->e<m:=fun e he hA=>by
  have hd:=O e hA;rcases Nat.lt_or_ge e m with h|h
  .exact h
  .exfalso;rcases C.eh with e2|e2
   .have:=(ss.1 he);simp_all
   .by_cases e3:e=m
    .subst e3;exact C.cK hd
    .obtain⟨om,hom,hactm⟩:=ss.1 e2;obtain⟨oe,hoe,hacte⟩:=ss.1 he;exact C.cK (Kx cx.cR C.cP e oe hoe (C.cP e hd oe hoe) m (cx.cR.clash m e om oe ac hom hoe J7))
 have hhi:∀e∈mC ops.toList,i∈(j0 ops.toList []).getD e []->m<=e:=fun e he hA=>by
  rcases Nat.lt_or_ge e m with h|h
  .obtain⟨oe,hoe,_⟩:=ss.1 he;exact(hbehind e (C.fE e he h) oe hoe hA).elim
  .exact h
 unfold wpOp;rw[show ops[i]?=some o by simp_all];simp only[];have hnxm:nx0<=(cH rs H' m).next:=C.step.mono
 have hsame:Step B nx0 G w (cH rs H' m) w G:=(lU C.step.r).dS hnxm;have hstill:∀(v:Value) (w':World) (G':Gh),i≠m->VR G' r.val v->Step B (cH rs H' m).next G w (cH rs H' m) w' G'->K (a.put o.dst v) w':=fun v w' G' Z hv V=>
  hfin v w' G' _ hv (V.dS hnxm) (fun k p hk=>by
   rcases V.dj k p hk with h|h
   .exact .inl h
   .have:=V.r.dz k p hk;omega) (.inl ⟨Z,rfl⟩)
 have hnotact:pA o=false->i≠m:=fun hna e=>by
  rcases C.eh with e2|e2
  .omega
  .obtain⟨om,hom,hactm⟩:=ss.1 e2;simp_all
 cases hd:r.did with
 |false=>
  have hw:Region.wanted o (yielded ops a.tmps)=false:=by rw[<-hwant,ha.f5];exact hd
  rw[hw];simp only[dV,fK];obtain⟨hval,hheap⟩:=ha.no hd;by_cases Z:i=m
  .subst Z;exact hfin undef w G (cH rs H' (i+1)) (by rw[hval];exact Ck G) aU (fun k p hk=>.inl hk) (.inr ⟨rfl,rfl⟩)
  .exact hfin undef w G _ (by rw[hval];exact Ck G) hsame (fun k p hk=>.inl hk) (.inl ⟨Z,rfl⟩)
 |true=>
  have hw:Region.wanted o (yielded ops a.tmps)=true:=by rw[<-hwant,ha.f5];exact hd
  rw[hw];simp only[dG];have hop:=ha.f2 hd;refine .inl ?_;cases Y:jd o.op with
  |eh=>
   have Z:=hturn (by simp[pA,Y]);subst Z;refine Ga fit hih C.step.r I hop fun v w' G' hv V=>?_;refine hfin v w' G' _ hv (V.dS hnxm) (fun k p hk=>?_) (.inr ⟨rfl,rfl⟩);rcases V.dj k p hk with h|h
   .exact .inl h
   .exact .inr ⟨h,V.r.dz k p hk⟩
  |cR=>
   have hnc:∀c,o.op≠.call c:=fun c e=>by
    rw[e]at Y;simp only[jd]at Y;grind
   have Z:=hnotact (by simp[pA,Y]);have hX:=(Kt (P:=P) (by simp[vI,Y]) ((yE hnc).1 hop)).2 (cH rs H' m);have hop':eQ P B.cy ih f (iY rs E' i) (cH rs H' m) o.op=.val r.val (cH rs H' m):=(yE hnc).2 hX;exact Ga fit hih C.step.r I hop' fun v w' G' hv V=>hstill v w' G' Z hv V
  |read=>
   have Z:=hnotact (by simp[pA,Y]);have J:=cx.cu i r hr hd m C.eh.symm hlo hhi;unfold ze6 at J;rw[ha.eo,Y,ha.eE]at J;simp only[]at J;split at J
   .rename_i v1 H1 hop';have hv1:=AV.bl J;subst hv1;have hH1:=Ku (by simp[uo,Y]) hop';subst hH1;exact Ga fit (Snd.a5 P B) C.step.r I hop' fun v w' G' hv V=>hstill v w' G' Z hv V
   .simp at J
  |make=>
   have Z:=hnotact (by simp[pA,Y]);have hnc:∀c,o.op≠.call c:=fun c e=>by
    rw[e]at Y;simp only[jd]at Y;split at Y<;>simp at Y
   have hopA:=(yE hnc).1 hop;obtain⟨blk,obj,ext,v,hH1,hrun,hmade,hv⟩:=Z7 (P:=P) (w:=w) (by simp[wR,Y]) I hopA;have J:=cx.cu i r hr hd m C.eh.symm hlo hhi;unfold ze6 at J;rw[ha.eo,Y,ha.eH,ha.eH']at J;simp only[]at J;have hnext1:(cH rs H' (i+1)).next=(cH rs H' i).next+1:=by rw[hH1];rfl
   have hgetm:(cH rs H' m).get (cH rs H' i).next=some blk:=by
    split at J
    .rename_i b b' h1 h2;rw[HB.bl J]at h1;rw[hH1,aL,ai rfl]at h2;simp only[am]at h2;subst h2;exact h1
    .simp at J
   have hlt:i<m:=by
    rcases FY i m with h|h|h
    .exact h
    .exact(Z h).elim
    .exfalso;rcases C.eh with e2|e2
     .omega
     .obtain⟨om,hom,hactm⟩:=ss.1 e2;exact C.cK (O m (cx.cR.clash m i om o h hom ho (by unfold Ab.clash;simp[hactm,wR,Y])))
   have hr0:(cH rs H' i).next<(cH rs H' m).next:=by
    have:=cx.b8 (m-(i+1)) (i+1) (by have:=C.le;omega);rw[show i+1+(m-(i+1))=m by omega]at this;omega
   have hnx0:nx0<=(cH rs H' i).next:=by
    have:=cx.b8 i 0 ac;rw[bR,cx.fG,hnx]at this;exact this
   have hno:∀q,G.β (cH rs H' i).next=some q->False:=fun q hq=>by
    rcases C.dj _ q hq with h|⟨j,h1,h2,h3,h4⟩
    .omega
    .rcases FY j i with h|h|h
     .have:=cx.b8 (i-(j+1)) (j+1) ac;rw[show j+1+(i-(j+1))=i by omega]at this;omega
     .subst h;exact hnot h1
     .have:=cx.b8 (j-(i+1)) (i+1) ac;rw[show i+1+(j-(i+1))=j by omega]at this;omega
   have V:=O1 C.step.r hno hr0 hgetm hnx0 hmade;unfold Oper.wp;rw[hrun];refine hfin v _ _ _ (hv _ (vH _ _ _)) V (fun k p hk=>?_) (.inl ⟨Z,rfl⟩);simp only[Gh.add]at hk
   grind
theorem KA(O:i<z.size)(Z:z[i]=false):(z.setIfInBounds i true).toList.countP (·=false)+1=z.toList.countP (·=false):=by
 grind
theorem zak(fit:Fit P)(hih:Snd P B n ih){V:Nat}{bZ:Hp}(cx:Ctx P B.cy ih f N ops.toList E0 bZ E' H' rs)(hnx:bZ.next=V)
 (hE':iY rs E' ops.toList.length=E') (hH':cH rs H' ops.toList.length=H')  (hQ:∀e a w,m1 B N V G0 w0 .normal E' H' e a w->Q e a w) :
 ∀(Z:Nat) (z:qO) (a:Act) (w:World) (m:Nat) (G:Gh),InvD rs ops.toList N B V E0 H' G0 w0 z a w m G->z.toList.countP (·=false)<=Z->wpAny P .any ops Q Z z a w:=by
 -- at the end all is done
 have O:∀(z:qO) (a:Act) (w:World) (m:Nat) (G:Gh),InvD rs ops.toList N B V E0 H' G0 w0 z a w m G->Region.ready .any ops z=[]->Q .normal a w:=fun z a w m G C I=>by
  have J:∀j,j<ops.toList.length->iN z j:=fun j=>by
   induction j using Nat.strongRecOn with
   |_ j ihj=>
    intro hj;have ho:=aX hj;have hjs:j<z.size:=by rw[C.size];exact hj
    cases hl:z[j]with
    |true=>
     unfold iN;rw[mY,w7 hjs,hl];rfl
    |false=>
     exfalso;have:j∈Region.ready .any ops z:=nW.2 ⟨_,ho,by rw[mY,w7 hjs,hl];rfl,fun p hp=>by
      have hlt:=cx.cR.lt j _ ho p hp;exact ihj p hlt ac⟩
     rw[I]at this;simp at this
  have hm:m=ops.toList.length:=by
   rcases C.eh with e|e
   .exact e
   .obtain⟨om,hom,_⟩:=ss.1 e;exact(C.cK (J m (gR.1 hom).1)).elim
  subst hm;have hst:=C.step;rw[hH']at hst;refine hQ _ _ _ ⟨rfl,G,⟨C.frame,fun t=>?_⟩,hst,C.defers⟩;have:=C.ca.ft cx (t:=t) (aG _) (fun j oj hoj _=>⟨fun _=>(gR.1 hoj).1,fun h=>J j h⟩);simp_all
 intro Z;induction Z with
 |zero=>
  intro z a w m G C hc;have I:Region.ready .any ops z=[]:=by
   apply Cp.2;intro i hi;obtain⟨o,ho,L,_⟩:=nW.1 hi;have Y:i<z.size:=cU;rw[mY,w7 Y]at L;have:=KA Y wV;omega
  exact⟨I,O z a w m G C I⟩
 |succ Z ihf=>
  intro z a w m G C hc;refine⟨fun I=>O z a w m G C I,fun i hi=>?_⟩;obtain⟨o,ho,L,_⟩:=nW.1 hi;have Y:i<z.size:=cU;rw[mY,w7 Y]at L;have hcs:=KA Y wV;exact zaj fit hih cx hnx C hi (fun a' w' m' G' hI'=>ihf _ a' w' m' G' hI' ac)
theorem PC(fit:Fit P)(C:Snd P B n ih){H:Hp}{x:AX}(hr:pB P B.cy ih f N ops.toList E H=.done x E' H')
 (h:R B H w G) (ht:TR N G E a) (hd:a.defers=[])  (hQ:∀e a' w',m1 B N H.next G w x E' H' e a' w'->Q e a' w'):wpAny P .any ops Q ops.size (Array.replicate ops.size false) a {w with drawn:=w.drawn+1}:=by
 unfold pB at hr;split at hr
 .rename_i J;split at hr
  .rename_i E1 H1 rs L;split at hr
   .rename_i Z;simp only[Res.done.injEq]at hr;obtain⟨rfl,rfl,rfl⟩:=hr;have cx:=zai J L Z;have hlen:=cx.len;have hE':iY rs E1 ops.toList.length=E1:=by unfold iY;simp_all
    have hH':cH rs H1 ops.toList.length=H1:=by unfold cH;simp_all
    obtain⟨m,q1,q2,q3,q4⟩:=Ky (l:=ops.toList) ops.toList.length 0 ac;obtain⟨z,g2⟩:=cx.gb m 0 ac (fun j _ I=>q4 j ac ac);rw[bR,cx.fG]at z g2;have hdr:R B H {w with drawn:=w.drawn+1} G:=h.heap rfl;have Y:Step B H.next G w (cH rs H1 m) {w with drawn:=w.drawn+1} G:=
     ⟨hdr.more z g2,Ad _,⟨rfl,rfl,rfl,aG _,fun _ _ _=>rfl⟩,yx _ _,fun _ _ h=>.inl h,z,fun _ _ _ h=>.inl h⟩
    have V:∀j,¬iN (Array.replicate ops.size false) j:=fun j I=>by
     unfold iN at I;rw[mY,Array.getElem?_replicate]at I
     grind
    refine zak fit C cx rfl hE' hH' hQ ops.size _ a _ m G
     ⟨aB,fun j I=>(V j I).elim,q2,q3,V m,fun e he O=>(q4 e (eR _) O he).elim,Y,fun r p hr=>.inl (h.dz r p hr),fun t=>.inr ⟨fun j o' I=>(V j I).elim,ht.ca t⟩,ht.size,hd⟩ ?_
    exact dt List.countP_le_length aB
   .simp at hr
  .simp at hr
 .simp at hr
end
end Go.Ab
