/- Lemmas for the last file. -/
import Derived.Test.YtbflaciihaijgaaGreatJEB
set_option linter.all false
set_option maxHeartbeats 32000000
namespace Go.Ab
set_option maxRecDepth 20000
open Go
abbrev qJ:=Array Bool
abbrev qu:=List Int
variable{qf:Prop}
def Ds(h:qf:=by simp[Builtin.lenOf]):=h
def td(h:qf:=by rw[List.length_take];omega):=h
def Ay(h:qf:=by simp[Builtin.len_,eG hd,goInt]):=h
def fW(h:qf:=by simp[Op.operands]):=h
def HR(h:qf:=by simp only[Op.operands,List.mem_toArray,List.mem_map];exact⟨p,hp,rfl⟩):=h
def HS(h:qf:=by apply Array.ext';simp):=h
def jL:=@List.flatten_cons
def te:=@Nat.zero_mul
def HT:=@Go.run_firstCells_some
def jM:=@List.mem_of_getElem?
def eS:=@List.drop_zero
def Az:=@Nat.sub_zero
def AA:=@List.take_length
def cj:=@Bool.and_eq_true
def AB:=@Nat.le_of_ble_eq_true
def dI:=@Bool.false_eq_true
def Dt:=@List.drop_append_of_le_length
def AC:=@List.eq_nil_of_length_eq_zero
def yF:=@List.all_append
def Mp:=@List.length_eq_zero_iff
def kA:=@decide_eq_true_eq
def bz:=@Option.getD_some
def yG:=@List.getElem?_set
def wZ:=@Array.getElem?_toList
def dN:=@List.cons.injEq
def lE:=@Nat.mul_one
def vk:=@Go.Code.wp_mono
def dZ:=@List.map_cons
def jN:=And.intro @cj @kA
end Go.Ab
namespace Go.Ab
set_option maxRecDepth 20000
open Go Go.RowKit
variable{cs:qt}{vs:qF}{s n b O i N:Nat}{t u e:TypeId}{x c y k v:AV}{V d:TypeDesc}{a:Act}{Z z m:Value}{w':World}{Y:Gh}{o:Oper}{E:ax}{D:BinOp->Sx->Sx->qG}{ops:qN}{ih:zd3->Res}{f:FuncId}
section
variable {P:Program} {B:Bs} {G:Gh} {H H':Hp} {w:World}
def cc.bP(h:cc G cs vs)(O:cs.all AV.one=true):∀v∈vs,v.oneCell'=true:=fun v V=>by
 obtain⟨i,C,rfl⟩:=ta V;have Z:i<cs.length:=by rw[h.1];exact C
 rw[(h.2 i _ _ (aL Z) (aL C)).bP];exact gM.1 O _ (cB Z)
def Xc{xs:List qt}(M:∀(i:Nat) (L:qt),xs[i]?=some L->L.length=s):xs.flatten.length=xs.length*s /\
 ∀(i j:Nat) (c:AV),j<s->xs.flatten[i*s+j]?=some c->∃L,xs[i]?=some L/\L[j]?=some c:=by
 induction xs with
 |nil=>exact⟨au,au⟩
 |cons L xs ih=>
  have hr:=M 0 L rfl;obtain⟨Y,g⟩:=ih (fun i r C=>M (i+1) r Ap);refine⟨by simp[Y,hr,ud];omega,fun i j c Z hc=>?_⟩;rw[jL]at hc;cases i with
  |zero=>
   rw[te,bK,je ac]at hc;exact⟨L,rfl,hc⟩
  |succ i=>
   rw[lT (by rw[hr,ud];omega)]at hc;rw[hr,show(i+1)*s+j-s=i*s+j by rw[ud];omega]at hc;obtain⟨r,V,U⟩:=g i j c Z hc;exact⟨r,yw,U⟩
def Xd{k:Nat}(h:k<n*s):k/s<n/\k%s<s/\k=k/s*s+k%s:=by
 have M:0<s:=by
  rcases Nat.eq_zero_or_pos s with e|e
  .subst e;omega
  .exact e
 refine⟨(Nat.div_lt_iff_lt_mul M).2 h,Nat.mod_lt _ M,?_⟩;have:=Nat.div_add_mod k s;rw[Nat.mul_comm]at this;omega
def Xe(h:R B H w G){Y:Value}{lo V:qC}{C I:qS}(U:VR G x Y)(J:wY G lo C)(O:wY G V I)(M:ph P H t x lo V=some c):
 ∃v,(Instr.sliceAt t Y C I none).run P w=.ok v w/\VR G c v:=by
 unfold ph at M;split at M
 .rename_i r Z;split at M
  .rename_i n e cs m j hd hg;split at M
   .rename_i z l i g bl bh;split at M
    .rename_i hc;obtain⟨h1,h2,h3⟩:=hc;cases U with
     |ptr hr=>
      rename_i b o x;have hf:=h.bD _ _ _ _ _ _ _ hr hg;have hb:=HP (P:=P) (w:=w) (cap:=n) J O bl bh h1 h2 (aH _) false;have L:(Instr.sliceAt t (.pointer (some ⟨b,o+Z,none⟩)) C I none).run P w=.ok (.slice (some (if n=l then ⟨b,o+Z,none⟩else ⟨b,o+Z+l*z,none⟩)) (i-l) (n-l)) w:=by
       simp only[Instr.sliceAt,fT,eG hd,fV];simp[Instr.sureAddr,hb,lW g,pm]
      split at M
      .rename_i e1;simp only[aI]at M;subst M;subst e1;rw[nP]at L;exact⟨_,L,.bQ _ _⟩
      .rename_i hne;simp only[aI]at M;subst M;rw[af ac]at L;refine⟨_,L,?_⟩;rw[ki];refine .sl hr ac ?_;have e3:(n-l)*z+l*z=n*z:=HE;omega
    .simp at M
   .simp at M
  .simp at M
 .exact Xa U J O M
def HU(h:R B H w G){xv:Value}{l:qt}(hx:VR G x xv)(M:eQ H s x=some (n,l)):
 ∃m,cc G l m/\m.length=n*s/\(∀Z,(Builtin.lenOf xv).run P Z=.ok n Z)/\(∀Z,(∀a,Z.cell? a=w.cell? a)->(Builtin.firstCells s n xv).run P Z=.ok m.toArray Z):=by
 unfold eQ at M;split at M
 .rename_i r off V z;cases hx with
  |sl hr hl hc=>
   rename_i b o x J;split at M
   .rename_i cs imm tip hg;simp only[]at M;split at M
    .rename_i hlen;simp only[cT]at M;obtain⟨rfl,rfl⟩:=M;obtain⟨vs,h1,h2⟩:=(((h.cells _ _ _ _ _ _ _ hr hg).drop off).take (V*s)).list;have O:vs.length=V*s:=by rw[<-h1.1];exact hlen
     refine⟨vs,h1,O,fun Z=>Ds,fun Z g=>?_⟩;exact HT Z s V _ V J vs O (fun j v hj=>by rw[g,pm];exact h2 j v hj)
    .simp at M
   .simp at M
 .rename_i C;split at M
  .rename_i hall;simp only[cT]at M;obtain⟨rfl,rfl⟩:=M;have U:∀(i:Nat) (L:qt),C[i]?=some L->L.length=s:=fun i L hi=>by
    have:=gM.1 hall L (jM hi);simpa using this
   obtain⟨hfl,hfg⟩:=Xc U;cases hx with
   |bQ a J=>
    refine⟨[],mQ G,au,fun Z=>Ds,fun Z g=>?_⟩;cases a with
    |none=>simp[Builtin.firstCells]
    |some a=>
     simp[Builtin.firstCells];rfl
   |aE vs hz hF hv hcap=>
    rename_i b o J z;have hzs:C.length=0\/z=s:=by
     cases C with
     |nil=>exact .inl rfl
     |cons L C=>exact .inr (by rw[<-hz 0 L rfl,U 0 L rfl])
    have hh:ky G w b o C.flatten:=fun k c hk=>by
     have I:k<C.length*s:=by rw[<-hfl];exact(fH.1 hk).1
     obtain⟨d1,d2,d3⟩:=Xd I;have hz':z=s:=by
      rcases hzs with e|e
      .rw[e]at I;omega
      .exact e
     subst hz';obtain⟨L,g1,g2⟩:=hfg (k/z) (k%z) c d2 (by rw[<-d3];exact hk);refine⟨vs (k/z) (k%z),?_,hv _ _ L c g1 g2⟩;have:=h.ci _ _ _ (hF (k/z) (k%z) d1 d2);rw[show o+k=o+k/z*z+k%z by omega];exact this
    obtain⟨m,h1,h2⟩:=hh.list;have O:m.length=C.length*s:=by rw[<-h1.1];exact hfl
    refine⟨m,h1,O,fun Z=>Ds,fun Z g=>?_⟩;exact HT Z s C.length _ C.length J m O (fun j v hj=>by rw[g,pm];exact h2 j v hj)
  .simp at M
 .simp only[cT]at M;obtain⟨rfl,rfl⟩:=M;cases hx;exact⟨[],mQ G,au,fun Z=>Ds,fun Z g=>by simp[Builtin.firstCells]⟩
 .rename_i b;split at M
  .rename_i e;subst e;simp only[cT]at M;obtain⟨rfl,rfl⟩:=M;cases hx with
   |aq Y _ hb=>
    subst hb;have hsz:Y.data.toList.length=Y.size:=by show Y.data.toList.length=Y.data.size;simp
    refine⟨Y.data.toList.map fun x=>.int .u8 x.toNat,⟨au,fun i c v hc hv=>?_⟩,au,fun Z=>by simp[Builtin.lenOf,hsz],fun Z g=>?_⟩
    .rw[eu]at hc hv;cases hi:Y.data.toList[i]? with
     |none=>rw[hi]at hc;simp at hc
     |some u=>
      rw[hi]at hc hv;simp only[lC]at hc hv;subst hc hv;exact .int _ _
    .simp only[Builtin.firstCells,lV]
     congr 1
     apply oE;have:(Y.extract 0 Y.data.toList.length).data.toList=Y.data.toList:=by
      rw[Lib.extract_data,eS,Az,AA]
     simp only[HI,this]
  .simp at M
 .simp at M
def Du(z:Array Value)(n:Nat):(Builtin.zeroCells z n).toList.length=n*z.size:=by simp[Builtin.zeroCells]
def Mq{ty:TypeId}(hd:P.underlying t=some (.slice e))(z:P.underlying u=some V)(Y:∀k,V≠.int k)(U:bE P e=some s)
 {a:Option Addr}{len cap:Nat} (M:len+n<=cap) {nv:qF} (J:(Builtin.lenOf Z).run P w=.ok n w) (C:(Builtin.firstCells s n Z).run P w=.ok nv.toArray w) :
 (Builtin.append_ #[t,u] ty #[.slice a len cap,Z]).run P w=(match a with
   |some a=>((storeCells (a.add (len*s)) nv).run P w).andThen fun _ O=>.ok (.slice (some a) (len+n) cap) O
   |none=>.ok (.slice none (len+n) cap) w):=by
 have I:(match V with|.int _=>true |_=>false)=false:=by cases V<;>first|rfl|exact(Y _ rfl).elim
 simp only[Builtin.append_];simp[eG hd,eG z,lW U,J];rw[ah M,C];cases a<;>simp
theorem Xf{ty:TypeId}(hd:P.underlying t=some (.slice e))(J:P.underlying u=some V)(U:∀k,V≠.int k)(I:bE P e=some s)(hb:dt P e=some b)
  (C:∀w,(zeroValue e).run P w=.ok z w)
 {a:Option Addr}{len cap:Nat} (M:cap<len+n) (Y:(len+n)*b<=dL) (Z:len+n<=dL) {O:Value}{ov nv:qF} (g:(Builtin.lenOf O).run P w=.ok n w) (hf:(Builtin.firstCells s n O).run P w.drew=.ok nv.toArray w.drew)
 (ho:(Builtin.firstCells s len (.slice a len cap)).run P w.drew=.ok ov.toArray w.drew) :
 (Builtin.append_ #[t,u] ty #[.slice a len cap,O]).run P w=.ok (.slice (some ⟨w.heap.size,0,none⟩) (len+n) (grownCap w (len+n) cap e))
   (w.drew.alloc (.cells (ov++nv++(Builtin.zeroCells z.cells (grownCap w (len+n) cap e-(len+n))).toList).toArray e)):=by
 have hz':(match V with|.int _=>true |_=>false)=false:=by cases V<;>first|rfl|exact(U _ rfl).elim
 obtain⟨i,hi,L⟩:∃i,P.info? e=some i/\i.bytes=b:=HF;have hm:dL=70368744177664:=rfl;rw[hm]at Y Z;have j:¬(281474976710656<Builtin.nextslicecap (len+n) cap*b):=by
  have:=growslice_fits M (bytes:=b) ac;omega
 have m:¬(9223372036854775807<((len:Int)+(n:Int))):=ac;have h1:¬(len+n<=cap):=ac;simp only[Builtin.append_];simp[eG hd,eG J,lW I,g,h1,vh hi,L,m,j,Question.forced,ho,hf,C,newRow,grownCap]
 congr 2
 apply oE;simp
def R.heap(h:R B H w G)(e:w'.heap=w.heap):R B H w' G:=by
 have k:∀a,w'.cell? a=w.cell? a:=fun a=>by simp[World.cell?,e]
 have U:∀a,w'.frozen? a=w.frozen? a:=fun a=>by simp[World.frozen?,e]
 exact{
  bO:=by rw[e];exact h.bO
  b9:=h.b9
  lt:=fun r b o x hr=>by rw[e];exact h.lt r b o x hr
  cells:=fun r b o x g imm Z hr hc j c Y=>by rw[k];exact h.cells r b o x g imm Z hr hc j c Y
  aF:=h.aF
  ext:=h.ext
  bD:=h.bD
  bz:=fun r b o x g imm Z hr hc j Y J=>by rw[k,U];exact h.bz r b o x g imm Z hr hc j Y J
  apart:=h.apart
  map:=fun r b o x V hr hc=>by rw[e];exact h.map r b o x V hr hc
  aV:=h.aV
  ci:=fun b o v C=>by rw[k];exact h.ci b o v C
  val:=h.val
  cr:=h.cr}
def Step.cy(h:Step B O G w.drew H' w' Y):Step B O G w H' w' Y:=
 ⟨h.r,h.ext,⟨h.fr.os,h.fr.tape,h.fr.output,h.fr.size,h.fr.block⟩,h.new,h.bY,h.mono,h.ch⟩
def ky.dn{o off len:Nat}(U:ky G w b o cs)(J:off+len*s=cs.length){cap:Nat}:
 ∃g,cc G (cs.drop off) g/\g.length=len*s/\∀M,(∀a,M.cell? a=w.cell? a)->(Builtin.firstCells s len (.slice (some ⟨b,o+off,none⟩) len cap)).run P M=.ok g.toArray M:=by
 obtain⟨vs,i,Y⟩:=(U.drop off).list;have O:vs.length=len*s:=by rw[<-i.1,kT];omega
 exact⟨vs,i,O,fun M L=>HT M s len _ len cap vs O (fun j v Z=>by rw[L,pm];exact Y j v Z)⟩
def Mr(h:iR P u=true):∃d,P.underlying u=some d/\∀k,d≠.int k:=by
 unfold iR at h;split at h
 .rename_i e hd;exact⟨_,hd,au⟩
 .rename_i hd;exact⟨_,hd,au⟩
 .simp at h
def Xg(h:R B H w G)(keep:Bool)(s:Nat)(sv:AV):Step B H.next G w (ii keep H s sv) w G:=by
 unfold ii;split
 .rename_i r off len z;split
  .rename_i cs imm hg;split
   .rename_i hc;simp only[cj]at hc;have h1:off+len*s<cs.length:=by simpa [jK]using hc.1.2
    have h2:=AB hc.2;generalize off+len*s=m at h1 h2;have hgs:∀Y b',(H.set r (.cells (cs.take m) imm true)).get Y=some b'->(Y=r/\b'=.cells (cs.take m) imm true)\/(Y≠r/\H.get Y=some b'):=fun Y b' he=>by
     rw[aA]at he;split at he
     .rename_i e;simp only[aI]at he;exact .inl ⟨e,he.symm⟩
     .rename_i e;exact .inr ⟨e,he⟩
    have C:∀Y I g V,(H.set r (.cells (cs.take m) imm true)).get Y=some (.cells I g V)->∃Z,H.get Y=some (.cells Z g V)/\(∀(j:Nat) c,I[j]?=some c->Z[j]?=some c)/\I.length<=Z.length/\(∀x,fJ x I V=fJ x Z V):=fun Y I g V he=>by
     rcases hgs Y _ he with⟨rfl,e⟩|⟨_,e⟩
     .simp only[HB.cells.injEq]at e;obtain⟨rfl,rfl,rfl⟩:=e;refine⟨cs,hg,fun j c M=>?_,td,fun x=>rfl⟩;rw[sY]at M;split at M
      .exact M
      .simp at M
     .exact⟨I,e,fun _ _ h=>h,aH _,fun _=>rfl⟩
    refine⟨?_,yA _,Au _ _,wV _ _,fun _ _ h=>.inl h,aH _,fun _ _ _ h=>.inl h⟩;exact{
     bO:=h.bO
     b9:=h.b9
     lt:=h.lt
     cells:=fun Y b o x I g V hr i j c M=>by
      obtain⟨Z,O,e2,_⟩:=C Y I g V i;exact h.cells Y b o x Z g V hr O j c (e2 j c M)
     aF:=fun Y b o x I g V hr i j M hjl=>by
      obtain⟨Z,O,_,e3,_⟩:=C Y I g V i;exact h.aF Y b o x Z g V hr O j M ac
     ext:=fun Y b o x I g V hr i=>by
      obtain⟨Z,O,_,e3,e4⟩:=C Y I g V i;have:=h.ext Y b o x Z g V hr O;rw[e4];omega
     bD:=fun Y b o x I g V hr i=>by
      obtain⟨Z,O,_,e3,e4⟩:=C Y I g V i;have:=h.bD Y b o x Z g V hr O;omega
     bz:=fun Y b o x I g V hr i j M hjl=>by
      obtain⟨Z,O,_,_,e4⟩:=C Y I g V i;exact h.bz Y b o x Z g V hr O j M (by rw[<-e4];exact hjl)
     apart:=fun r1 b1 o1 x1 cs1 L J r2 b2 o2 x2 cs2 imm2 tip2 hr1 hc1 hr2 U hne j j' q1 q2 q3 q4=>by
      obtain⟨cs01,O,_,_,e14⟩:=C r1 cs1 L J hc1;obtain⟨cs02,e2,_,_,e24⟩:=C r2 cs2 imm2 tip2 U;exact h.apart r1 b1 o1 x1 cs01 L J r2 b2 o2 x2 cs02 imm2 tip2 hr1 O hr2 e2 hne j j' q1 (by rw[<-e14];exact q2) q3 (by rw[<-e24];exact q4)
     map:=fun Y b o x es hr i=>by
      rcases hgs Y _ i with⟨_,e⟩|⟨_,e⟩
      .simp at e
      .exact h.map Y b o x es hr e
     aV:=fun r1 b1 o1 x1 es r2 b2 o2 x2 hr1 hc1 hr2 U hne=>by
      rcases hgs r1 _ hc1 with⟨_,e⟩|⟨_,e⟩
      .simp at e
      .refine h.aV r1 b1 o1 x1 es r2 b2 o2 x2 hr1 e hr2 ?_ hne;rw[aA]at U;split at U
       .rename_i e2;rw[e2,hg];rfl
       .exact U
     ci:=h.ci
     val:=h.val
     cr:=h.cr}
   .exact lD h
  .exact lD h
 .exact lD h
structure zf9 (P:Program) (w:World) (t u ty e:TypeId) (s b:Nat) (xv:Value) (n:Nat) (nv:qF):Prop where
 fit:∀{a:Option Addr}{len cap:Nat},len+n<=cap->(Builtin.append_ #[t,u] ty #[.slice a len cap,xv]).run P w=(match a with
  |some a=>((storeCells (a.add (len*s)) nv).run P w).andThen fun _ w'=>.ok (.slice (some a) (len+n) cap) w'
  |none=>.ok (.slice none (len+n) cap) w)
 new:∀{zv:Value},(∀w,(zeroValue e).run P w=.ok zv w)->∀{a:Option Addr}{len cap:Nat}{ov:qF},cap<len+n->(len+n)*b<=dL->len+n<=dL->(Builtin.firstCells s len (.slice a len cap)).run P w.drew=.ok ov.toArray w.drew ->
  (Builtin.append_ #[t,u] ty #[.slice a len cap,xv]).run P w=.ok (.slice (some ⟨w.heap.size,0,none⟩) (len+n) (grownCap w (len+n) cap e))
    (w.drew.alloc (.cells (ov++nv++(Builtin.zeroCells zv.cells (grownCap w (len+n) cap e-(len+n))).toList).toArray e))
def Ms(h:R B H w G){keep:Bool}{ty:TypeId}{z Z:qt}{nv:qF}{sv:AV}{svv xv:Value}(hs:bE P e=some s)(hb:dt P e=some b)(hz:cS P e=some z)(hzl:z.length=s)
 (hA:zf9 P w t u ty e s b xv n nv) (h1:cc G Z nv) (h2:nv.length=n*s) (hn0:n≠0) (hone:Z.all AV.one=true) (hsv:VR G sv svv) (U:mK keep (ii keep H s sv) s b sv n Z=some (c,H')) :
 ∃v w' G',(Builtin.append_ #[t,u] ty #[svv,xv]).run P w=.ok v w'/\VR G' c v/\Step B H.next G w H' w' G':=by
 have hnl:Z.length=n*s:=by rw[h1.1,h2]
 obtain⟨zv,hzr,hzv⟩:=yD hz;have hzs:zv.cells.size=s:=by have:=(hzv G).1;rw[hzl]at this;simpa using this.symm
 have ht:=Xg h keep s sv
 suffices hgoal:∃v w' G',(Builtin.append_ #[t,u] ty #[svv,xv]).run P w=.ok v w'/\VR G' c v/\Step B (ii keep H s sv).next G w H' w' G' by
  obtain⟨v,w',G',g1,g2,g3⟩:=hgoal;exact⟨v,w',G',g1,g2,ht.trans g3⟩
 replace h:=ht.r;clear ht;generalize ii keep H s sv=H at U h⊢;unfold mK at U;split at U
 ·-- onto nil
  split at U
  .rename_i m;simp only[cT]at U;obtain⟨rfl,rfl⟩:=U;cases hsv;have L:=hA.new hzr (a:=none) (len:=0) (cap:=0) (ov:=[]) ac (by simpa using m.1) (by simpa using m.2) (by simp[Builtin.firstCells]);have Y:=Dj (h.heap (w':=w.drew) rfl) h1 (Builtin.zeroCells zv.cells (grownCap w (0+n) 0 e-(0+n))).toList e;have hge:=grownCap_ge w (0+n) 0 e;refine⟨_,_,_,L,?_,Y.cy⟩;rw[bK]at hge⊢;refine .sl (ui _ _ _) hge ?_;rw[Du,hzs,h2];have:grownCap w n 0 e*s=n*s+(grownCap w n 0 e-n)*s:=HE;simp;omega
  .simp at U
 ·-- onto a row of its own
  rename_i r off len zz;split at U
  .rename_i cs imm hg;split at U
   .rename_i hcond2;obtain⟨hr1,hr2,hend,rfl,himm⟩:=hcond2;cases hsv with
    |sl hr hlc hcx=>
     rename_i O g x0 cap;have hHolds:=h.cells _ _ _ _ _ _ _ hr hg;have hex:=h.ext _ _ _ _ _ _ _ hr hg;simp only[fJ]at hex;have hoff:off<=cs.length:=ac;obtain⟨ov,o1,o2,o3⟩:=hHolds.dn (P:=P) (off:=off) (s:=zz) (len:=len) hend (cap:=cap)
     have C:r≠H.next:=fun e=>by have:=h.b9 _ _ hr;omega
     by_cases M:len+n<=cap
     ·-- in its room
      have L:=hA.fit (a:=some ⟨O,g+off,none⟩) M;simp only[]at L;rw[pm,ki,hend]at L;have hcap:(len+n)*zz<=cap*zz:=yz _ M;rw[rr]at hcap;cases keep with
      |false=>
       simp only[dI,dD,cT]at U;obtain⟨rfl,rfl⟩:=U;obtain⟨w',hw,i⟩:=HK P hr cs.length Z nv cs 0 H w h hg h1 (h1.bP hone) ac ac Ao au;rw[hw]at L;simp only[fV]at L;rw[ve,L8]at i;have J:=L9 i.r (r:=r) (cs:=cs++Z) (imm:=imm) hr gC (off:=off) bW;refine⟨_,w',_,L,?_,(i.trans J).congr rfl fun k _=>?_⟩
       .refine .sl (ui _ _ _) M ?_;omega
       .rw[aD,aD,gN,gN,aA,Dt hoff];simp only[tc,br];by_cases e1:k=H.next
        .simp only[e1,dh]
        .by_cases e2:k=r
         .simp only[e2,dh]
         .simp only[e1,e2,dD]
      |true=>
       simp only[dh,cT]at U;obtain⟨rfl,rfl⟩:=U;have V:=Ax h hr hg (n:=cs.length) himm (aH _) true (fun _=>rfl);obtain⟨w',hw,i⟩:=HK P (G:=G.aG w O g cs.length) (r:=r) (imm:=cs.length) (tip:=true) hr cs.length Z nv cs 0 _ w V.r gC (h1.mono V.ext) (h1.bP hone) ac ac Ao au;rw[hw]at L;simp only[fV]at L;rw[ve,L8]at i;have hgr:((H.set r (.cells cs cs.length true)).set r (.cells (cs++Z) cs.length true)).get r=some (.cells (cs++Z) cs.length true):=gC;have J:=L9 i.r (r:=r) (cs:=cs++Z) (imm:=cs.length) hr hgr (off:=off) bW;have hmid:=(V.trans i).trans J;have hrr:((G.aG w O g cs.length).add H.next (O,g+off,x0-off)).β r=some (O,g,x0):=by
        simp only[Gh.add];rw[af C];exact hr
       have hnoMap:∀r1 b1 o1 x1 es,((G.aG w O g cs.length).add H.next (O,g+off,x0-off)).β r1=some (b1,o1,x1) ->
        ((((H.set r (.cells cs cs.length true)).set r (.cells (cs++Z) cs.length true)).aR r).alloc (.cells ((cs++Z).drop off) (cs.length-off) true)).get r1=some (.map es)->b1≠O:=fun r1 b1 o1 x1 es g1 g2=>by
        rw[aD,gN,aA,aA]at g2;simp only[tc,br]at g2;by_cases hne:r1=H.next
        .simp[hne]at g2
        .by_cases hne2:r1=r
         .simp[hne2]at g2
         .simp only[hne,hne2,dD]at g2;have g1':G.β r1=some (b1,o1,x1):=by simp only[Gh.add]at g1;rw[af hne]at g1;exact g1
          exact h.aV r1 b1 o1 x1 es r O g x0 g1' g2 hr (by rw[hg];rfl) hne2
       have hHolds':ky ((G.aG w O g cs.length).add H.next (O,g+off,x0-off)) w' O g cs:=fun j c hj=>by
        have hjl:j<cs.length:=(fH.1 hj).1;have h5:=i.r.cells r O g x0 _ _ _ hr hgr j c (by rw[je hjl];exact hj);obtain⟨v,q1,q2⟩:=h5;exact⟨v,q1,q2.mono J.ext⟩
       have hFF:∀j,j<cs.length->∃v,((G.aG w O g cs.length).add H.next (O,g+off,x0-off)).F O (g+j)=some v:=fun j hj=>
        V.r.aF r O g x0 cs cs.length true hr gC j hj hj
       have hrev:=WJ hmid.r hrr (h.bD _ _ _ _ _ _ _ hr hg) hHolds' hFF hnoMap;refine⟨_,w',_,L,?_,(hmid.trans hrev).congr rfl fun k _=>?_⟩
       .refine .sl (ui _ _ _) M ?_;omega
       .rw[aA,aD,aD,gN,aA,aA,aA,Dt hoff];simp only[tc,br];have:cs.length-off=len*zz:=ac;rw[this];by_cases e1:k=r
        .subst e1;simp only[C,dh,dD]
        .simp only[e1,dD]
     ·-- a Z row
      have hfit':cap<len+n:=ac;have L:=hA.new hzr (a:=some ⟨O,g+off,none⟩) hfit' hr1 hr2 (o3 w.drew (fun _=>rfl));have hge:=grownCap_ge w (len+n) cap e;have hlen2:(ov++nv).length=(len+n)*zz:=by rw[fB,o2,h2,rr]
      have hcapx:grownCap w (len+n) cap e*zz=(ov++nv).length+(Builtin.zeroCells zv.cells (grownCap w (len+n) cap e-(len+n))).toList.length:=by
       rw[Du,hzs,hlen2,<-rr];congr 1;omega
      have Y:=(Dj (h.heap (w':=w.drew) rfl) (o1.append h1) (Builtin.zeroCells zv.cells (grownCap w (len+n) cap e-(len+n))).toList e).cy;have hnn:∀(X:HB) (k:Nat),k≠H.next->(H.alloc X).get k=H.get k:=fun X k hk=>by rw[aD,af hk]
      have I:∀p,(G.add H.next p).β H.next=some p:=fun p=>ui _ _ _
      have hlenX:(cs.drop off++Z).length=(len+n)*zz:=by rw[fB,kT,hnl,rr];omega
      cases keep with
      |false=>
       simp only[dI,dD,cT]at U;obtain⟨rfl,rfl⟩:=U;have hk:=Y.r.aR r;have hgx:((H.alloc (.cells (cs.drop off++Z) 0 true)).aR r).get H.next=some (.cells (cs.drop off++Z) 0 true):=by
        rw[gN,af (Ne.symm C),aD,ah rfl]
       have V:=Ax hk (I _) hgx (n:=imm-off) (de _) (by rw[hlenX,rr];omega) true (fun _=>rfl);have hst2:Step B H.next G w _ _ _:=⟨hk,Y.ext,Y.fr,Y.new,Y.bY,Y.mono,Y.ch⟩
       refine⟨_,_,_,L,?_,(hst2.trans V).congr rfl fun k _=>?_⟩
       .exact .sl (I _) hge ac
       .rw[aA,aD,gN,gN,aD];simp only[tc];by_cases e1:k=H.next
        .simp only[e1,dh]
        .simp only[e1,dD]
      |true=>
       simp only[dh,cT]at U;obtain⟨rfl,rfl⟩:=U;have hgx:(H.alloc (.cells (cs.drop off++Z) 0 true)).get H.next=some (.cells (cs.drop off++Z) 0 true):=fG
       have V:=Ax Y.r (I _) hgx (n:=len*zz) (de _) (by rw[hlenX,rr];omega) true (fun _=>rfl);have hgr:((H.alloc (.cells (cs.drop off++Z) 0 true)).set H.next (.cells (cs.drop off++Z) (len*zz) true)).get r=some (.cells cs imm true):=by
        rw[aA,af C,hnn _ _ C];exact hg
       have hice2:=Ax V.r (r:=r) (by
        show(G.add H.next _).β r=_;simp only[Gh.add];rw[af C];exact hr) hgr (n:=cs.length) himm (aH _) false au
       refine⟨_,_,_,L,?_,((Y.trans V).trans hice2).congr rfl fun k _=>?_⟩
       .exact .sl (I _) hge ac
       .rw[aA,aA,aD,aD,aA];simp only[br];by_cases e1:k=H.next
        .have e3:¬H.next=r:=fun e=>C e.symm
         simp only[e1,e3,dh,dD]
        .simp only[e1,dD]
   .simp at U
  .simp at U
 .simp at U
theorem Xh{ty:TypeId}{k k':IntKind}(hd:P.underlying t=some (.slice e))(hu:P.underlying u=some (.int k'))(hs:bE P e=some s)(hb:dt P e=some b)
  (L:∀w,(zeroValue e).run P w=.ok z w) (g:z.cells.size=s)  (h1:n*b<=dL) (h2:n<=dL) :
 zf9 P w t u ty e s b (.int k (n:Int)) n (Builtin.zeroCells z.cells n).toList:=by
 obtain⟨i,hi,U⟩:∃i,P.info? e=some i/\i.bytes=b:=HF;have hm:dL=70368744177664:=rfl;rw[hm]at h1 h2;have m:IntKind.i64.wrap (n:Int)=n:=by
  unfold IntKind.wrap;simp[IntKind.signed,IntKind.bits];omega
 have O:¬((n:Int)<0):=ac;have j:¬(281474976710656<(n:Int)*(b:Int)):=by
  have:(n:Int)*(b:Int)=((n*b:Nat):Int):=by push_cast;rfl
  omega
 have C:n*s=0->(Builtin.zeroCells z.cells n).toList=[]:=fun e=>AC (by rw[Du,g,e]);have I:∀w,(asInt (.int k (n:Int))).run P w=.ok (n:Int) w:=fun w=>by simp[asInt,asIntOf]
 refine⟨fun{a V J} M=>?_,fun{zv'} hz' {a V J ov} M Y Z ho=>?_⟩
 .simp only[Builtin.append_];simp[eG hd,eG hu,lW hs,vh hi,U,I,m,O,j,L];rw[ah M];by_cases e:n*s=0
  .rw[ah e,C e];cases a<;>simp
  .rw[af e];cases a<;>simp
 .obtain rfl:zv'=z:=by
   have:=(hz' w).symm.trans (L w);simpa using this
  rw[hm]at Y Z;have h48:¬(281474976710656<Builtin.nextslicecap (V+n) J*b):=by
   have:=growslice_fits M (bytes:=b) ac;omega
  have h63:¬(9223372036854775807<((V:Int)+(n:Int))):=ac;have h1':¬(V+n<=J):=ac;simp only[Builtin.append_];simp[eG hd,eG hu,lW hs,vh hi,U,I,m,O,j,h1',h63,h48,Question.forced,ho,L,newRow,grownCap];by_cases e0:n*s=0
  .rw[ah e0,C e0]
   congr 3
   apply oE;simp
  .rw[af e0]
   congr 3
   apply oE;simp
theorem Mt{z:qt}(h:z.all AV.one=true):∀n,(kM z n).all AV.one=true
 |0=>rfl
 |n+1=>by rw[kM,yF,h,Mt h n];rfl
def Xi(h:R B H w G){keep:Bool}{ty:TypeId}{sv:AV}{I xv:Value}(Y:VR G sv I)(hx:VR G x xv)(Z:cX P keep H t u sv x=some (c,H')):
 ∃v w' G',(Builtin.append_ #[t,u] ty #[I,xv]).run P w=.ok v w'/\VR G' c v/\Step B H.next G w H' w' G':=by
 unfold cX at Z;split at Z
 .rename_i e hd;split at Z
  .rename_i s b z i hb hz;split at Z
   .rename_i nL C U;obtain⟨du,hu,L⟩:=Mr C;obtain⟨nv,h1,h2,h3,h4⟩:=HU (P:=P) h hx U;have hnv:nv=[]:=by rw[te]at h2;exact Mp.1 h2
    subst hnv;have V:∀a len cap,I=.slice a len cap->len<=cap->(Builtin.append_ #[t,u] ty #[I,xv]).run P w=.ok I w:=fun a len cap e M=>by
     subst e;rw[Mq hd hu L i (n:=0) ac (h3 w) (h4 w (fun _=>rfl))];cases a<;>simp[storeCells]
    split at Z
    .simp only[cT]at Z;obtain⟨rfl,rfl⟩:=Z;refine⟨I,w,G,?_,Y,lD h⟩;cases Y with
     |sl hr hl hc=>exact V _ _ _ rfl hl
    .simp only[cT]at Z;obtain⟨rfl,rfl⟩:=Z;refine⟨I,w,G,?_,Y,lD h⟩;cases Y with
     |aE vs hz hF hv hc=>exact V _ _ _ rfl hc
     |bQ a cap=>exact V _ _ _ rfl (de _)
    .simp only[cT]at Z;obtain⟨rfl,rfl⟩:=Z;refine⟨I,w,G,?_,Y,lD h⟩;cases Y with
     |ak=>exact V _ _ _ rfl (aH _)
    .simp at Z
   .rename_i n new hnz C U;obtain⟨du,hu,L⟩:=Mr C;obtain⟨nv,h1,h2,h3,h4⟩:=HU (P:=P) h hx U;have hn0:n≠0:=fun e=>by subst e;exact hnz rfl
    split at Z
    .rename_i O;exact Ms h i hb hz O.2 ⟨fun M=>Mq hd hu L i M (h3 w) (h4 w (fun _=>rfl)),fun{zv} J {a len cap ov} M hr1 hr2 ho=>Xf hd hu L i hb J M hr1 hr2 (h3 w) (h4 w.drew (fun _=>rfl)) ho⟩ h1 h2 hn0 O.1 Y Z
    .simp at Z
   .unfold L0 at Z;split at Z
    .rename_i k' k m hu _ _;split at Z
     .rename_i O;obtain⟨hc1,hc2,g,hc4⟩:=O;obtain⟨zv,J,hzv⟩:=yD hz;have j:zv.cells.size=s:=by have:=(hzv G).1;rw[g]at this;simpa using this.symm
      cases hx;have hA:=Xh (P:=P) (w:=w) (t:=t) (ty:=ty) (k:=k) hd hu i hb J j hc1 hc2;have hzn:∀n,cc G (kM z n) (Builtin.zeroCells zv.cells n).toList:=fun n=>by
       have:=HQ (hzv G) n;unfold Builtin.zeroCells;have e:z.length=zv.cells.size:=by rw[g,j]
       rw[e]at this;exact this
      split at Z
      .have hz0:(Builtin.zeroCells zv.cells 0).toList=[]:=by simp[Builtin.zeroCells]
       have V:∀a len cap,I=.slice a len cap->len<=cap->(Builtin.append_ #[t,u] ty #[I,.int k (Int.ofNat 0)]).run P w=.ok I w:=fun a len cap e M=>by
        subst e;have:=hA.fit (a:=a) (len:=len) (cap:=cap) ac;rw[hz0]at this;refine Eq.trans this ?_;cases a<;>simp[storeCells]
       split at Z
       .simp only[cT]at Z;obtain⟨rfl,rfl⟩:=Z;refine⟨I,w,G,?_,Y,lD h⟩;cases Y with
        |sl hr hl hc=>exact V _ _ _ rfl hl
       .simp only[cT]at Z;obtain⟨rfl,rfl⟩:=Z;refine⟨I,w,G,?_,Y,lD h⟩;cases Y with
        |aE vs hz hF hv hc=>exact V _ _ _ rfl hc
        |bQ a cap=>exact V _ _ _ rfl (de _)
       .simp only[cT]at Z;obtain⟨rfl,rfl⟩:=Z;refine⟨I,w,G,?_,Y,lD h⟩;cases Y with
        |ak=>exact V _ _ _ rfl (aH _)
       .simp at Z
      .rename_i m;exact Ms h i hb hz g hA (hzn _) (by rw[Du,j]) ac (Mt hc4 _) Y Z
     .simp at Z
    .simp at Z
  .simp at Z
 .simp at Z
end
section
variable {P:Program} {B:Bs} {G:Gh} {H H':Hp} {w:World}
def Xj(C:ByteArray):C.data.toList.length=C.size:=by show C.data.toList.length=C.data.size;simp
def Mu(h:R B H w G){m:AV}{mv:Value}{V:qO}(O:VR G m mv)(J:wL H m=some V):
 (mv=.map none/\V=[])\/∃r b o x ms i,m=.map r/\mv=.map (some b)/\G.β r=some (b,o,x)/\H.get r=some (.map V)/\w.heap[b]?=some (.map ms i)/\uf G V ms.toList:=by
 unfold wL at J;split at J
 .simp only[aI]at J;subst J;cases O;exact .inl ⟨rfl,rfl⟩
 .rename_i r;split at J
  .rename_i Z hg;simp only[aI]at J;subst J;cases O with
   |map hr=>
    rename_i b o x;obtain⟨ms,i,Y,g⟩:=h.map r b o x _ hr hg;exact .inr ⟨r,b,o,x,ms,i,rfl,rfl,hr,hg,Y,g⟩
  .simp at J
 .simp at J
def AD{ms:Array MapEntry}(h:w.heap[b]?=some (.map ms i)):(getObj b).run P w=.ok (.map ms i) w:=by
 simp[getObj,Sem.run,h]
def Xk(h:R B H w G){ty:TypeId}(z:VR G x Z)(J:ij P H t x=some c):∃v,(Builtin.len_ #[t] ty #[Z]).run P w=.ok v w/\VR G c v:=by
 unfold ij at J;split at J
 .rename_i hd;split at J
  .simp only[aI]at J;subst J;cases z with
   |aq C _ M=>
    subst M;refine⟨_,?_,.int _ _⟩;rw[Xj];simp[Builtin.len_,eG hd,goInt]
  .simp at J
 .rename_i e hd;split at J
  .simp only[aI]at J;subst J;cases z;exact⟨_,Ay,.int _ _⟩
  .simp only[aI]at J;subst J;cases z
   .exact⟨_,Ay,.int _ _⟩
   .exact⟨_,Ay,.int _ _⟩
  .simp only[aI]at J;subst J;cases z;exact⟨_,Ay,.int _ _⟩
  .simp at J
 .rename_i n e hd;simp only[aI]at J;subst J;refine⟨.int .i64 n,?_,.int _ _⟩;simp only[Builtin.len_];simp[eG hd,goInt]
 .rename_i U e hd;split at J
  .rename_i V Y;simp only[aI]at J;subst J;rcases Mu h z Y with⟨rfl,rfl⟩|⟨r,b,o,O,ms,i,rfl,rfl,hr,hg,L,g⟩
   .exact⟨_,Ay,.int _ _⟩
   .refine⟨.int .i64 V.length,?_,.int _ _⟩;have:ms.size=V.length:=by have:=g.1;simpa using this.symm
    simp[Builtin.len_,eG hd,AD L,goInt,this]
  .simp at J
 .simp at J
def Xl{z:Bool}(Y:VR G x Z)(V:VR G y m)(h:mm z x y=some c):∃v,((if z then Builtin.max2 else Builtin.min2) Z m).run P w=.ok v w/\VR G c v:=by
 unfold mm at h;split at h
 .simp only[aI]at h;subst h;cases Y;cases V;cases z
  .refine⟨_,rfl,?_⟩;simp only[dI,dD,kA];exact .int _ _
  .refine⟨_,rfl,?_⟩;simp only[dh,kA];exact .int _ _
 .simp at h
theorem HV{Y:Bool}:∀{C:qt}{M:qF}{x c:AV}{Z:Value},VR G x Z->cc G C M->uZ Y x C=some c ->
 ∃v,(M.foldlM (if Y then Builtin.max2 else Builtin.min2) Z).run P w=.ok v w/\VR G c v
 |[],M,x,c,Z,hx,hxs,h=>by
  simp only[uZ,aI]at h;subst h;have:M=[]:=by have:=hxs.1;simpa using this.symm
  subst this;exact⟨Z,rfl,hx⟩
 |y::ys,[],_,_,_,_,hxs,_=>by have:=hxs.1;simp at this
 |y::ys,yv::yvs,x,c,Z,hx,hxs,h=>by
  obtain⟨i,g⟩:=hxs.a7;simp only[uZ]at h;split at h
  .rename_i z I;obtain⟨O,L,V⟩:=Xl (P:=P) (w:=w) hx i I;obtain⟨v,U,J⟩:=HV V g h;exact⟨v,by rw[List.foldlM_cons,fT,L];exact U,J⟩
  .simp at h
def HW(h:rc P t=some d):P.underlying t=some d/\((∃k,d=.int k)\/d=.string\/d=.bool):=by
 unfold rc at h;split at h<;>simp only[aI,reduceCtorEq]at h<;>subst h
 .rename_i k hd;exact⟨hd,.inl ⟨k,rfl⟩⟩
 .rename_i hd;exact⟨hd,.inr (.inl rfl)⟩
 .rename_i hd;exact⟨hd,.inr (.inr rfl)⟩
def HX{r:Bool}(z:VR G x Z)(Y:VR G y m)(h:p9 d x y=some r):Instr.sameNow d Z m=some r:=by
 unfold p9 at h;split at h
 .split at h
  .cases z;cases Y;exact h
  .simp at h
 .split at h
  .cases z with
   |aq a _ V=>cases Y with
    |aq b _ hb=>
     subst V hb;simp only[aI]at h;subst h;simp only[Instr.sameNow,aI];show(a.data == b.data)=(a.data.toList == b.data.toList);rw[As];simp only[pj,Array.toList_inj]
  .simp at h
 .split at h
  .cases z;cases Y;exact h
  .simp at h
 .simp at h
theorem HY{d:TypeDesc}{k:AV}{kv:Value}(Z:VR G k kv):∀{V:qO}{ms:List MapEntry}{i:Nat},uf G V ms ->
 (gy d k V i=some none->Instr.findNow d kv ms i=some none) /\
 (∀j v,gy d k V i=some (some (j,v))->∃k' m,V[j-i]?=some (k',v)/\ms[j-i]?=some m/\i<=j/\p9 d k k'=some true/\Instr.findNow d kv ms i=some (some (j,m.val)))
 |[],ms,i,he=>by
  have:ms=[]:=by have:=he.1;simpa using this.symm
  subst this;exact⟨fun _=>rfl,fun j v h=>by simp[gy]at h⟩
 |e::V,[],i,he=>by have:=he.1;simp at this
 |(k',v')::V,m::ms,i,he=>by
  obtain⟨Y,h2⟩:=he.2 0 (k',v') m rfl rfl;have O:uf G V ms:=⟨by simpa using he.1,fun j a b z hb=>he.2 (j+1) a b (by simpa using z) (by simpa using hb)⟩;obtain⟨M,g⟩:=HY (d:=d) Z (i:=i+1) O;constructor
  .intro h;simp only[gy]at h;split at h
   .simp at h
   .rename_i C;have:=HX Z Y C;simp only[Instr.findNow,this];exact M h
   .simp at h
  .intro j v h;simp only[gy]at h;split at h
   .rename_i C;simp only[cT]at h;obtain⟨rfl,rfl⟩:=h;have:=HX Z Y C;exact⟨k',m,au,au,aH _,C,by simp only[Instr.findNow,this]⟩
   .rename_i C;have:=HX Z Y C;obtain⟨J,I,L,g2,g3,g4,g5⟩:=g j v h;have U:j-i=(j-(i+1))+1:=ac;refine⟨J,I,by rw[U];simpa using L,by rw[U];simpa using g2,ac,g4,?_⟩;simp only[Instr.findNow,this];exact g5
   .simp at h
theorem Xm(n:Nat){Z:TypeId}(hd:rc P Z=some d)(e:Bool)(kv:Value):(Instr.checkKey e (n+1) Z kv).run P w=.ok () w:=by
 obtain⟨i,g⟩:=HW hd;simp only[Instr.checkKey,fT,eG i,fV];rcases g with⟨k,rfl⟩|rfl|rfl<;>rfl
def AE{Z:TypeId}(hd:rc P Z=some d)(e:Bool)(kv:Value):(Instr.checkKey e 10000 Z kv).run P w=.ok () w:=Xm 9999 hd e kv
def AF{Z:TypeId}(hd:P.underlying Z=some d){kv:Value}{ms:List MapEntry}{r:Option (Nat×Value)}(h:Instr.findNow d kv ms 0=some r):(Instr.findKey Z kv ms).run P w=.ok r w:=by
 simp[Instr.findKey,eG hd,h]
def Xn{U:TypeId}(hd:P.underlying t=some (.map U e))(Y:rc P U=some d){mv kv:Value}{ok:Bool}{ms:Array MapEntry}
 (O:(mv=.map none/\ms=#[])\/∃b i,mv=.map (some b)/\w.heap[b]?=some (.map ms i)) :
 (∀j v,Instr.findNow d kv ms.toList 0=some (some (j,v))->(Instr.lookup t mv kv ok).run P w=.ok (if ok then .tuple #[v,.bool true]else v) w) /\
 (∀z,(zeroValue e).run P w=.ok z w->Instr.findNow d kv ms.toList 0=some none->(Instr.lookup t mv kv ok).run P w=.ok (if ok then .tuple #[z,.bool false]else z) w):=by
 have V:=(HW Y).1;rcases O with⟨rfl,rfl⟩|⟨b,i,rfl,L⟩
 .refine⟨fun j v C=>by simp[Instr.findNow]at C,fun z I C=>?_⟩;have Z:=AF (P:=P) (w:=w) V C;simp only[Instr.lookup,fT,eG hd,fV,lV,AE Y,Z,I]
 .refine⟨fun j v C=>?_,fun z I C=>?_⟩
  .have Z:=AF (P:=P) (w:=w) V C;simp only[Instr.lookup,fT,eG hd,fV,AD L,lV,AE Y,Z]
  .have Z:=AF (P:=P) (w:=w) V C;simp only[Instr.lookup,fT,eG hd,fV,AD L,lV,AE Y,Z,I]
def Xo(h:R B H w G){m:AV}{mv kv:Value}{ok:Bool}(I:VR G m mv)(z:VR G k kv)(J:mL P H t m k ok=some c):
 ∃v,(Instr.lookup t mv kv ok).run P w=.ok v w/\VR G c v:=by
 unfold mL at J;split at J
 .rename_i kt e hd;split at J
  .rename_i es V g Y;obtain⟨ms,O,M⟩:∃ms:Array MapEntry,((mv=.map none/\ms=#[])\/∃b Z,mv=.map (some b)/\w.heap[b]?=some (.map ms Z))/\uf G es ms.toList:=by
    rcases Mu h I g with⟨rfl,rfl⟩|⟨r,b,o,xx,ms,Z,rfl,rfl,hr,hg,hw,he⟩
    .exact⟨#[],.inl ⟨rfl,rfl⟩,rfl,au⟩
    .exact⟨ms,.inr ⟨b,Z,rfl,hw⟩,he⟩
   obtain⟨f1,f2⟩:=HY (d:=V) z (i:=0) M;obtain⟨r1,r2⟩:=Xn (kv:=kv) (ok:=ok) hd Y O;split at J
   .rename_i j v C;simp only[aI]at J;subst J;obtain⟨k',m',g1,g2,_,_,g5⟩:=f2 j v C;have U:=(M.2 _ _ _ g1 g2).2;refine⟨_,r1 _ _ g5,?_⟩;cases ok
    .exact U
    .exact .aX (vs:=[m'.val,.bool true]) rfl (kq U (kq (.bool true) (mQ _))).2
   .rename_i C;split at J
    .rename_i v U;simp only[aI]at J;subst J;obtain⟨zv,z1,L⟩:=WK U;refine⟨_,r2 _ (z1 w) (f1 C),?_⟩;cases ok
     .exact L G
     .exact .aX (vs:=[zv,.bool false]) rfl (kq (L G) (kq (.bool false) (mQ _))).2
    .simp at J
   .simp at J
  .simp at J
 .simp at J
end
section
variable {P:Program} {B:Bs} {G:Gh} {H H':Hp} {w:World}
def Mv(h:R B H w G){r o x:Nat}{es I:qO}{ms':Array MapEntry}{clock':Nat}(hr:G.β r=some (b,o,x))(hg:H.get r=some (.map es))(he:uf G I ms'.toList):
 Step B H.next G w (H.set r (.map I)) {w with heap:=w.heap.setIfInBounds b (.map ms' clock') } G:=by
 obtain⟨ms,clock,hw,_⟩:=h.map r b o x es hr hg;have hb:b<w.heap.size:=(h.lt r b o x hr).2
 let w':World:={w with heap:=w.heap.setIfInBounds b (.map ms' clock') }
 have z:∀k,k≠b->w'.heap[k]?=w.heap[k]?:=fun k O=>by
  show(w.heap.setIfInBounds b _)[k]?=_;rw[yy,af (Ne.symm O)]
 have hheapb:w'.heap[b]?=some (.map ms' clock'):=by
  show(w.heap.setIfInBounds b _)[b]?=_;simp[hb]
 have C:∀U Y v,w.cell? ⟨U,Y,none⟩=some v->U≠b:=fun U Y v hc e=>by
  subst e;unfold World.cell? at hc;rw[hw]at hc;simp at hc
 have L:∀U Y v,w.cell? ⟨U,Y,none⟩=some v->w'.cell? ⟨U,Y,none⟩=some v:=fun U Y v hc=>by
  rw[World.cell?_of_block (w:=w) (z U (C U Y v hc))];exact hc
 have Z:∀k,k≠r->(H.set r (.map I)).get k=H.get k:=fun k O=>by rw[aA,af O]
 have J:(H.set r (.map I)).get r=some (.map I):=gC;refine⟨?_,yA _,⟨rfl,rfl,rfl,au,fun k O hn=>z k (fun e=>hn r b o x hr e.symm)⟩,wV _ _,fun _ _ h=>.inl h,aH _,fun _ _ _ h=>.inl h⟩;exact{
  bO:=by have:=h.bO;simpa using this
  b9:=h.b9
  lt:=fun r b o x hr=>by have:=h.lt r b o x hr;simpa using this
  cells:=fun k U Y m g imm V O hc=>by
   by_cases e:k=r
   .subst e;rw[J]at hc;simp at hc
   .rw[Z k e]at hc;intro j c hj;obtain⟨v,h1,h2⟩:=h.cells k U Y m g imm V O hc j c hj;exact⟨v,L _ _ _ h1,h2⟩
  aF:=fun k U Y m g imm V O hc=>by
   by_cases e:k=r
   .subst e;rw[J]at hc;simp at hc
   .rw[Z k e]at hc;exact h.aF k U Y m g imm V O hc
  ext:=fun k U Y m g imm V O hc=>by
   by_cases e:k=r
   .subst e;rw[J]at hc;simp at hc
   .rw[Z k e]at hc;exact h.ext k U Y m g imm V O hc
  bD:=fun k U Y m g imm V O hc=>by
   by_cases e:k=r
   .subst e;rw[J]at hc;simp at hc
   .rw[Z k e]at hc;exact h.bD k U Y m g imm V O hc
  bz:=fun k U Y m g imm V O hc j hj hjl=>by
   by_cases e:k=r
   .subst e;rw[J]at hc;simp at hc
   .rw[Z k e]at hc;obtain⟨⟨v,h1⟩,h2,h3⟩:=h.bz k U Y m g imm V O hc j hj hjl;refine⟨⟨v,L _ _ _ h1⟩,?_,h3⟩;rw[World.frozen?_of_block (w:=w) (z U (C _ _ _ h1))];exact h2
  apart:=fun k1 b1 o1 x1 cs1 imm1 tip1 i b2 o2 x2 cs2 imm2 tip2 hk1 M hk2 hc2=>by
   by_cases e1:k1=r
   .subst e1;rw[J]at M;simp at M
   .by_cases e2:i=r
    .subst e2;rw[J]at hc2;simp at hc2
    .rw[Z k1 e1]at M;rw[Z i e2]at hc2;exact h.apart k1 b1 o1 x1 cs1 imm1 tip1 i b2 o2 x2 cs2 imm2 tip2 hk1 M hk2 hc2
  map:=fun k U Y m es1 O hc=>by
   by_cases e:k=r
   .subst e;have hk':=O;rw[hr]at hk';simp only[cT]at hk';obtain⟨rfl,rfl,rfl⟩:=hk';rw[J]at hc;simp only[aI,HB.map.injEq]at hc;subst hc;exact⟨ms',clock',hheapb,he⟩
   .rw[Z k e]at hc;obtain⟨ms1,clock1,h1,h2⟩:=h.map k U Y m es1 O hc;refine⟨ms1,clock1,?_,h2⟩;rw[z U (fun eb=>h.aV k U Y m es1 r b o x O hc hr (by rw[hg];rfl) e eb)];exact h1
  aV:=fun k1 b1 o1 x1 es1 i b2 o2 x2 hk1 M hk2 hs hne=>by
   have hs':(H.get i).isSome:=by
    by_cases e2:i=r
    .subst e2;rw[hg];rfl
    .rw[Z i e2]at hs;exact hs
   by_cases e1:k1=r
   .subst e1;exact h.aV k1 b1 o1 x1 es i b2 o2 x2 hk1 hg hk2 hs' hne
   .rw[Z k1 e1]at M;exact h.aV k1 b1 o1 x1 es1 i b2 o2 x2 hk1 M hk2 hs' hne
  ci:=fun U Y v hf=>L _ _ _ (h.ci U Y v hf)
  val:=h.val
  cr:=h.cr}
def Mw{ms ms':Array MapEntry}{clock':Nat}(h:w.heap[b]?=some (.map ms i)):
 (setObj b (.map ms' clock')).run P w=.ok () {w with heap:=w.heap.setIfInBounds b (.map ms' clock') }:=by
 simp[setObj,Sem.run,h]
def Xp(n:Nat)(z:VR G x Z)(Y:VR G y m)(h:p9 d x y=some true):Instr.sameBits n m Z=true:=by
 unfold p9 at h;split at h
 .split at h
  .split at h
   .rename_i e;subst e;cases z;cases Y;simp only[aI,pj]at h;subst h;cases n<;>simp[Instr.sameBits]
   .simp at h
  .simp at h
 .split at h
  .cases z with
   |aq a _ V=>cases Y with
    |aq b _ hb=>
     subst V hb;simp only[aI,pj]at h;have g:(b == a)=true:=by
      show(b.data == a.data)=true;simp only[pj];exact(oE h).symm
     cases n<;>simp[Instr.sameBits,g]
  .simp at h
 .split at h
  .cases z;cases Y;simp only[aI,pj]at h;subst h;cases n<;>simp[Instr.sameBits]
  .simp at h
 .simp at h
theorem Xq{old:Value}(h:Instr.sameBits 10000 old Z=true):(Instr.keyThatStays old Z).run P w=.ok Z w:=by
 unfold Instr.keyThatStays;rw[ah h];rfl
def Xr(h:R B H w G){m:AV}{mv kv vv:Value}(hm:VR G m mv)(g:VR G k kv)(hv:VR G v vv)(V:re P H t m k v=some H'):
 ∃w',(Instr.mapUpdate t mv kv vv).run P w=.ok () w'/\Step B H.next G w H' w' G:=by
 unfold re at V;split at V
 .rename_i kt e hd;split at V
  .rename_i r L Z;split at V
   .rename_i es hg;cases hm with
    |map hr=>
     rename_i b o x;obtain⟨ms,Y,hw,U⟩:=h.map r b o x es hr hg;obtain⟨f1,f2⟩:=HY (d:=L) g (i:=0) U;have J:=(HW Z).1;split at V
     .rename_i j v0 hf;simp only[aI]at V;subst V;obtain⟨k',m',g1,g2,_,g4,g5⟩:=f2 j v0 hf;simp only[Az]at g1 g2;have hjl:j<ms.size:=by have:=(fH.1 g2).1;simpa using this
      have I:ms[j]?=some m':=by simpa using g2
      have O:=Xp 10000 g (U.2 j _ _ g1 g2).1 g4;have M:=AF (P:=P) (w:=w) J g5;refine⟨_,?_,Mv h hr hg (ms':=ms.modify j fun e=>{e with key:=kv,val:=vv}) (clock':=Y) ?_⟩
      .simp only[Instr.mapUpdate,fT,eG hd,fV,AD hw,AE Z,M,I,rq,bz,Xq O,Mw hw]
      .refine⟨by have:=U.1;simpa using this,fun i a c z hc=>?_⟩;rw[yG]at z;rw[wZ,Array.getElem?_modify]at hc;by_cases e:j=i
       .subst e;rw[ah rfl]at hc;rw[ah rfl]at z;split at z
        .simp only[aI]at z;subst z;rw[I]at hc;simp only[lC]at hc;subst hc;exact⟨g,hv⟩
        .simp at z
       .rw[af e]at z hc;exact U.2 i a c z Da
     .rename_i hf;simp only[aI]at V;subst V;have M:=AF (P:=P) (w:=w) J (f1 hf);refine⟨_,?_,Mv h hr hg (ms':=ms.push {key:=kv,val:=vv,born:=Y}) (clock':=Y+1) ?_⟩
      .simp only[Instr.mapUpdate,fT,eG hd,fV,AD hw,AE Z,M,Mw hw]
      .refine⟨by have:=U.1;simpa using this,fun i a c z hc=>?_⟩;rw[Array.toList_push]at hc;have hl:=U.1;by_cases hi:i<es.length
       .rw[je hi]at z;rw[je ac]at hc;exact U.2 i a c z hc
       .rw[lT ac]at z;rw[lT ac]at hc;rw[<-hl]at hc;cases C:i-es.length with
        |zero=>
         rw[C]at z hc;simp at z hc;subst z hc;exact⟨g,hv⟩
        |succ n=>rw[C]at z;simp at z
     .simp at V
   .simp at V
  .simp at V
 .simp at V
theorem Mx:∀{g:qt}{bs:qx}{vs:qF},wM g=some bs->cc G g vs->∃Z:qu,vs=Z.map (Value.int .u8)/\bs=Z.map fun n=>UInt8.ofNat n.toNat
 |[],bs,vs,h,hv=>by
  simp only[wM,aI]at h;subst h;have:vs=[]:=by have:=hv.1;simpa using this.symm
  subst this;exact⟨[],rfl,rfl⟩
 |c::g,bs,[],h,hv=>by have:=hv.1;simp at this
 |c::g,bs,v::vs,h,hv=>by
  obtain⟨i,Y⟩:=hv.a7;unfold wM at h;split at h
  .rename_i e;simp at e
  .rename_i n I e;simp only[dN]at e;obtain⟨rfl,rfl⟩:=e;split at h
   .rename_i j hb;simp only[aI]at h;subst h;obtain⟨Z,rfl,rfl⟩:=Mx hb Y;cases i;exact⟨n::Z,rfl,rfl⟩
   .simp at h
  .simp at h
def Xs(ns:qu):∀s:ByteArray,(ns.foldl (fun r n=>r.push (UInt8.ofNat n.toNat)) s).data.toList=s.data.toList++ns.map fun n=>UInt8.ofNat n.toNat:=by
 induction ns with
 |nil=>intro s;simp
 |cons n ns ih=>intro s;rw[List.foldl_cons,ih];simp[ByteArray.push]
def Xt(h:R B H w G){V M:TypeId}{j:Value}(Z:VR G x j)(g:mM P H V M x=some c):∃v,(convert V M j).run P w=.ok v w/\VR G c v:=by
 unfold mM at g;split at g
 .rename_i e Y hd;split at g
  .rename_i J;split at g
   .rename_i n cs U;split at g
    .rename_i bs O;obtain⟨nv,h1,h2,i,h4⟩:=HU (P:=P) h Z U;obtain⟨L,C,rfl⟩:=Mx O h1;split at g
     .simp only[aI]at g;subst g;cases Z with
      |sl hr hl hcx=>
       rename_i b o xx cap;have z:=i w;simp[Builtin.lenOf]at z;subst z;have I:=h4 w (fun _=>rfl);simp only[Builtin.firstCells,lE]at I;rw[C]at I;refine⟨_,by rw[run_convert_bytes_string w V M e _ _ _ Y J hd,run_bytesToString w _ _ _ L I],.aq _ _ ?_⟩;rw[Xs];rfl
     .simp only[aI]at g;subst g;cases Z;have z:=i w;simp[Builtin.lenOf]at z;have:L=[]:=by
       have e1:(L.map (Value.int .u8)).length=0:=by rw[<-C,h2,<-z]
       simpa using e1
      subst this;refine⟨.string .empty,?_,.aq _ _ rfl⟩;rw[run_convert_bytes_string w V M e _ _ _ Y J hd];rfl
     .simp at g
    .simp at g
   .simp at g
  .simp at g
 .rename_i ds k hn Y hd;split at g
  .simp only[aI]at g;subst g;cases Z;refine⟨_,?_,.int _ _⟩;simp[convert,eG Y,eG hd,Conv.intToInt]
  .simp only[aI]at g;subst g;cases Z;rename_i k0 e0;refine⟨_,?_,.sx _ _⟩;simp[convert,eG Y,eG hd,Conv.intToInt,Sx.eval]
  .simp at g
 .rename_i hn Y hd;split at g
  .simp only[aI]at g;subst g;have m:=Z;cases Z with
   |aq sv _ J=>
    refine⟨.string sv,?_,m⟩;simp[convert,eG Y,eG hd]
  .simp at g
 .simp at g
end
section
variable {P:Program} {B:Bs} {G:Gh} {H H':Hp} {w:World}
def w1(G:Gh)(E:ax)(a:Act)(xs:Array Operand):Prop:=∀x∈xs,∀c,aS E x=some c->VR G c (a.eval x)
theorem Dv{E:ax}{a:Act}:∀{C:List Operand}{g:qt},(∀x∈C,∀c,aS E x=some c->VR G c (a.eval x))->jx E C=some g->cc G g (C.map a.eval)
 |[],g,_,h=>by
  simp only[jx,aI]at h;subst h;exact mQ G
 |x::C,g,hk,h=>by
  simp only[jx]at h;split at h
  .rename_i v vs V j;simp only[aI]at h;subst h;exact kq (hk x au v V) (Dv (fun y Y=>hk y (by simp[Y])) j)
  .simp at h
def mR{s:Sem Value}(h:R B H w G)(M:∃v,s.run P w=.ok v w/\VR G c v):wX P B H G w (do pure (.value (<-s))) c H:=by
 obtain⟨v,i,g⟩:=M;exact⟨.value v,w,G,v,by simp[i],.inl rfl,g,lD h⟩
def yH{s:Sem Value}(Z:∃v M Y,s.run P w=.ok v M/\VR Y c v/\Step B H.next G w H' M Y):wX P B H G w (do pure (.value (<-s))) c H':=by
 obtain⟨v,M,Y,i,g,m⟩:=Z;exact⟨.value v,M,Y,v,by simp[i],.inl rfl,g,m⟩
def My{s:Sem Unit}(Z:∃M,s.run P w=.ok () M/\Step B H.next G w H' M G):wX P B H G w (do s;pure .skip) dK H':=by
 obtain⟨M,i,g⟩:=Z;exact⟨.skip,M,G,undef,by simp[i],.inr ⟨rfl,rfl⟩,Av G,g⟩
def Mz{x:Option Operand}{c:qC}(j:∀y∈x.toArray,∀c,aS E y=some c->VR G c (a.eval y))(h:lR E x=some c):wY G c (x.map a.eval):=by
 unfold lR at h;split at h
 .simp only[aI]at h;subst h;exact trivial
 .rename_i y;split at h
  .rename_i v V;simp only[aI]at h;subst h;exact j y au v V
  .simp at h
def Xu(j:u9 o=true)(Y:w1 G E a o.op.operands)(m:dM P D E H o.op=some (c,H')):se P G w (execOp a.eval o) Next.value c H H':=by
 obtain⟨M,C,ty,g,L,guard⟩:=o;simp only[]at m Y;cases C<;>simp only[u9,iS,dI]at j
 case alloc t=>
  simp only[dM]at m;unfold z8 at m;split at m
  .rename_i z I;simp only[cT]at m;obtain⟨rfl,rfl⟩:=m;obtain⟨V,z1,z2⟩:=yD I;refine se.next ⟨.cells z 0 true,.cells (V.cells.toList++[]).toArray t,V.cells.toList.length+0,.pointer (some ⟨w.heap.size,0,none⟩),rfl,?_,.cells z V.cells.toList [] t (z2 G),fun U hG=>.ptr (off:=0) hG⟩
   simp[Instr.alloc,z1,newVar,newRow]
  .simp at m
 case box t x=>
  simp only[dM]at m;unfold z9 at m;split at m
  .rename_i v O;simp only[cT]at m;obtain⟨rfl,rfl⟩:=m;have hx:=(Y x fW _ O).cells;refine se.next ⟨.cells v.cells 0 true,.cells ((a.eval x).cells.toList++[]).toArray t,(a.eval x).cells.toList.length+0,.pointer (some ⟨w.heap.size,0,none⟩),rfl,?_,.cells v.cells _ [] t hx,fun U hG=>.ptr (off:=0) hG⟩
   simp[Instr.box,newVar,newRow]
  .simp at m
 case buildSlice t len parts=>
  simp only[dM]at m;unfold Ac at m;split at m
  .rename_i ps Z;obtain⟨q1,q2⟩:=Dq (G:=G) (a:=a) (fun p hp=>Y p.2 HR) Z;have:=Mn (P:=P) (w:=w) q1 q2 m;have he:(parts.toList.map fun x=>(x.1,a.eval x.2)).toArray=parts.map fun(i,x)=>(i,a.eval x):=by
    apply oE;simp
   rw[he]at this;exact this.next
  .simp at m
 case makeMap t r=>
  simp only[dM]at m;unfold Af at m;split at m
  .simp only[cT]at m;obtain⟨rfl,rfl⟩:=m;refine se.next ⟨.map [],.map #[] 0,0,.map (some w.heap.size),rfl,?_,.map,fun U hG=>.map hG⟩
   simp[Instr.makeMap]
  .simp at m
 case makeSlice t l c'=>
  simp only[dM]at m;unfold Ag at m;split at m
  .rename_i lv cv J hc;exact(Mo (Y l fW _ J) (Y c' fW _ hc) m).next
  .simp at m
 case call cl=>
  simp only[dM,reduceCtorEq]at m
def Xv(h:R B H w G)(Y:w1 G E a o.op.operands)(Z:dM P B.bX.cl E H o.op=some (c,H')):wX P B H G w (execOp a.eval o) c H':=by
 obtain⟨dst,op,ty,pos,after,guard⟩:=o;simp only[]at Z Y;cases op<;>simp only[dM,reduceCtorEq]at Z
 case move x=>
  obtain⟨V,rfl⟩:=my Z;exact yE h rfl (Y x fW _ V)
 case assign x=>
  obtain⟨V,rfl⟩:=my Z;exact yE h rfl (Y x fW _ V)
 case pick x y z=>
  unfold CO at Z;split at Z
  .rename_i hc;obtain⟨V,rfl⟩:=my Z;have hb:=Y x fW _ hc;have:a.eval x=.bool true:=by generalize a.eval x=v at hb;cases hb;rfl
   exact yE h (v:=a.eval y) (by simp[execOp,asBool,this]) (Y y fW _ V)
  .rename_i hc;obtain⟨V,rfl⟩:=my Z;have hb:=Y x fW _ hc;have:a.eval x=.bool false:=by generalize a.eval x=v at hb;cases hb;rfl
   exact yE h (v:=a.eval z) (by simp[execOp,asBool,this]) (Y z fW _ V)
  .simp at Z
 case alloc t=>
  unfold z8 at Z;split at Z
  .rename_i z hz;simp only[cT]at Z;obtain⟨rfl,rfl⟩:=Z;obtain⟨zv,z1,z2⟩:=yD hz;have M:=Dj h (z2 G) [] t;rw[bm,wU]at M;refine yH ⟨.pointer (some ⟨w.heap.size,0,none⟩),_,_,?_,?_,M⟩
   .simp[Instr.alloc,z1,newVar,newRow]
   .exact .ptr (off:=0) (ui _ _ _)
  .simp at Z
 case box t x=>
  unfold z9 at Z;split at Z
  .rename_i v O;simp only[cT]at Z;obtain⟨rfl,rfl⟩:=Z;have M:=Dj h (Y x fW _ O).cells [] t;rw[bm,wU]at M;refine yH ⟨.pointer (some ⟨w.heap.size,0,none⟩),_,_,?_,?_,M⟩
   .simp[Instr.box,newVar,newRow]
   .exact .ptr (off:=0) (ui _ _ _)
  .simp at Z
 case build t parts=>
  unfold CP at Z;split at Z
  .rename_i ps I;obtain⟨V,rfl⟩:=my Z;obtain⟨q1,q2⟩:=Dq (G:=G) (a:=a) (fun p hp=>Y p.2 HR) I;have:=Xb (P:=P) (w:=w) q1 q2 V;have j:(parts.toList.map fun x=>(x.1,a.eval x.2)).toArray=parts.map fun(i,x)=>(i,a.eval x):=by
    apply oE;simp
   rw[j]at this;exact mR h this
  .simp at Z
 case buildSlice t len parts=>
  unfold Ac at Z;split at Z
  .rename_i ps I;obtain⟨q1,q2⟩:=Dq (G:=G) (a:=a) (fun p hp=>Y p.2 HR) I;have:=(Mn (P:=P) (w:=w) q1 q2 Z).sim h;have j:(parts.toList.map fun x=>(x.1,a.eval x.2)).toArray=parts.map fun(i,x)=>(i,a.eval x):=by
    apply oE;simp
   rw[j]at this;exact yH this
  .simp at Z
 case load t x=>
  unfold Ad at Z;split at Z
  .rename_i v O;obtain⟨V,rfl⟩:=my Z;exact mR h (Mg h (Y x fW _ O) V)
  .simp at Z
 case store t x y=>
  unfold CQ at Z;split at Z
  .rename_i av vv ha O;split at Z
   .rename_i H1 hs;simp only[cT]at Z;obtain⟨rfl,rfl⟩:=Z;exact My (WL h (Y x fW _ ha) (Y y fW _ O) hs)
   .simp at Z
  .simp at Z
 case nilCheck x=>
  unfold CR at Z;split at Z
  .rename_i r off O;simp only[cT]at Z;obtain⟨rfl,rfl⟩:=Z;have U:=Y x fW _ O;refine yE h (v:=a.eval x) ?_ U;simp only[execOp];generalize a.eval x=v at U⊢;cases U;rfl
  .rename_i cs O;simp only[cT]at Z;obtain⟨rfl,rfl⟩:=Z;have U:=Y x fW _ O;refine yE h (v:=a.eval x) ?_ U;simp only[execOp];generalize a.eval x=v at U⊢;cases U;rfl
  .simp at Z
 case binOp op t x y yt=>
  unfold CS at Z;split at Z
  .rename_i J yv U C;obtain⟨V,rfl⟩:=my Z;exact mR h (W0 (by rw[h.val];exact h.cr) (Y x fW _ U) (Y y fW _ C) V)
  .simp at Z
 case unOp op t x=>
  unfold CT at Z;split at Z
  .rename_i J U;obtain⟨V,rfl⟩:=my Z;exact mR h (W1 (Y x fW _ U) V)
  .simp at Z
 case convert s d x=>
  unfold Ae at Z;split at Z
  .rename_i J U;obtain⟨V,rfl⟩:=my Z;exact mR h (Xt h (Y x fW _ U) V)
  .simp at Z
 case makeFunc fn first captured=>
  unfold CU at Z;split at Z
  .rename_i f vs L hvs;simp only[cT]at Z;obtain⟨rfl,rfl⟩:=Z;have hf:first=#[]:=by apply oE;simpa using L
   subst hf;have:=Dv (G:=G) (a:=a) (fun x U=>Y x (by simp[Op.operands];simpa using U)) hvs;refine mR h ⟨.func (.func f) #[] (captured.map a.eval),by simp[Instr.makeFunc],?_⟩;have j:captured.map a.eval=(captured.toList.map a.eval).toArray:=HS;rw[j];exact .bm this.1 this.2
  .simp at Z
 case makeMap t r=>
  unfold Af at Z;split at Z
  .simp only[cT]at Z;obtain⟨rfl,rfl⟩:=Z;exact yH ⟨.map (some w.heap.size),_,_,by simp[Instr.makeMap],.map (ui _ _ _),WA h⟩
  .simp at Z
 case makeSlice t l c'=>
  unfold Ag at Z;split at Z
  .rename_i lv cv hl hc;exact yH ((Mo (Y l fW _ hl) (Y c' fW _ hc) Z).sim h)
  .simp at Z
 case slice t x lo g mx=>
  unfold Ah at Z;split at Z
  .rename_i J l hh U hl hi';obtain⟨V,rfl⟩:=my Z;exact mR h (Xe h (Y x fW _ U) (Mz (fun y C=>Y y (by simp[Op.operands]at *;simp[C])) hl) (Mz (fun y C=>Y y (by simp[Op.operands]at *;simp[C])) hi') V)
  .simp at Z
 case fieldAddr t x f=>
  unfold CV at Z;split at Z
  .rename_i J U;obtain⟨V,rfl⟩:=my Z;exact mR h (WM (Y x fW _ U) V)
  .simp at Z
 case field t x f=>
  unfold CW at Z;split at Z
  .rename_i J U;obtain⟨V,rfl⟩:=my Z;exact mR h (WN (Y x fW _ U) V)
  .simp at Z
 case indexAddr t x i=>
  unfold CX at Z;split at Z
  .rename_i J iv U g;obtain⟨V,rfl⟩:=my Z;exact mR h (WO (Y x fW _ U) (Y i fW _ g) V)
  .simp at Z
 case index t x i=>
  unfold CY at Z;split at Z
  .rename_i J iv U g;obtain⟨V,rfl⟩:=my Z;exact mR h (WP (Y x fW _ U) (Y i fW _ g) V)
  .simp at Z
 case lookup t m k ok=>
  unfold Ai at Z;split at Z
  .rename_i mv kv hm hk;obtain⟨V,rfl⟩:=my Z;exact mR h (Xo h (Y m fW _ hm) (Y k fW _ hk) V)
  .simp at Z
 case mapUpdate t m k v=>
  unfold CZ at Z;split at Z
  .rename_i mv kv vv hm hk O;split at Z
   .rename_i H1 hs;simp only[cT]at Z;obtain⟨rfl,rfl⟩:=Z;exact My (Xr h (Y m fW _ hm) (Y k fW _ hk) (Y v fW _ O) hs)
   .simp at Z
  .simp at Z
 case extract x i=>
  unfold C0 at Z;split at Z
  .rename_i J U;obtain⟨V,rfl⟩:=my Z;exact mR h (WQ (Y x fW _ U) V)
  .simp at Z
def Xw(h:R B H w G){keep:Bool}{b:Builtin}{I:Array TypeId}{ty:TypeId}{consts:qJ}(V:cc G cs vs)(hb:sV P keep H b I.toList cs=some (c,H')):
 wX P B H G w (builtin b I ty consts vs.toArray) c H':=by
 unfold sV at hb;split at hb
 .split at hb
  .rename_i t u s x m;have z:I=#[t,u]:=by apply oE;simpa using m
   subst z
   match vs,V with
   |[U,Z],V=>
    obtain⟨i,g⟩:=V.a7;obtain⟨Y,_⟩:=g.a7;exact yH (Xi h i Y hb)
   |[],V=>have:=V.1;simp at this
   |[_],V=>have:=V.1;simp at this
   |_::_::_::_,V=>have:=V.1;simp at this
  .simp at hb
 .split at hb
  .rename_i t x m;have z:I=#[t]:=by apply oE;simpa using m
   subst z;split at hb
   .rename_i v J;simp only[cT]at hb;obtain⟨rfl,rfl⟩:=hb
    match vs,V with
    |[Z],V=>
     obtain⟨i,_⟩:=V.a7;exact mR h (Xk h i J)
    |[],V=>have:=V.1;simp at this
    |_::_::_,V=>have:=V.1;simp at this
   .simp at hb
  .simp at hb
 .split at hb
  .rename_i x C;split at hb
   .rename_i v O;simp only[cT]at hb;obtain⟨rfl,rfl⟩:=hb
    match vs,V with
    |[],V=>have:=V.1;simp at this
    |Z::xvs,V=>
     obtain⟨i,g⟩:=V.a7;have:=HV (P:=P) (w:=w) i g O;exact mR h (by simpa [Builtin.max_]using this)
   .simp at hb
  .simp at hb
 .split at hb
  .rename_i x C;split at hb
   .rename_i v O;simp only[cT]at hb;obtain⟨rfl,rfl⟩:=hb
    match vs,V with
    |[],V=>have:=V.1;simp at this
    |Z::xvs,V=>
     obtain⟨i,g⟩:=V.a7;have:=HV (P:=P) (w:=w) i g O;exact mR h (by simpa [Builtin.min_]using this)
   .simp at hb
  .simp at hb
 .simp at hb
end
def HZ:AX->Exit
 | .normal=>.normal
 | .exit id=>.exit id
 | .ret=>.ret
def mz(B:Bs)(N O:Nat)(G:Gh)(w:World)(x:AX)(U:ax)(H':Hp):Exit->Act->World->Prop:=fun e Z M=>
 e=HZ x/\∃Y,TR N Y U Z/\Step B O G w H' M Y/\Z.defers=[]
structure Fit (P:Program):Prop where
 name:∀(f:FuncId) (fn:Func),P.funcs[f]?=some fn->fn.body.isSome=true->(fn.name == "runtime.NumGoroutine")=false
 mixed:P.follows .mixedOrders=true
structure Snd (P:Program) (B:Bs) (n:Nat) (ih:zd3->Res):Prop where
 call:∀f args H r H',ih (.call f args H)=.val r H'->∀G w vs,R B H w G->cc G args vs ->
  (∃fn,P.funcs[f]?=some fn/\fn.body.isSome=true)/\Calls P f vs.toArray w (fun e w'=>∃v G',e=.returned v/\VR G' r v/\Step B H.next G w H' w' G')
 aP:∀f N c E H x E' H',ih (.aP f N c E H)=.done x E' H'->∀G w a,R B H w G->TR N G E a->a.defers=[]->Code.wp P c (mz B N H.next G w x E' H') a w
 loop:∀f N c E H x E' H',ih (.aP f N (.loop c) E H)=.done x E' H'->∀G w a,R B H w G->TR N G E a->a.defers=[]->Code.rounds P c (mz B N H.next G w x E' H') n a w
theorem H0{P:Program}{c:Code}{Q C:Exit->Act->World->Prop}(h:∀e a w,Q e a w->C e a w):∀{n:Nat}{a:Act}{w:World},Code.rounds P c Q n a w->Code.rounds P c C n a w
 |0,_,_,hr=>hr
 |n+1,_,_,hr=>by
  rw[rounds_succ]at *;exact vk (fun e a w J=>by
   cases e with
   |normal=>exact H0 h J
   |_=>exact h _ _ _ J) hr
def mz.trans{B:Bs}{G:Gh}{w:World}{H' I:Hp}{x:AX}{C:ax}(M:Step B O G w H' w' Y){e:Exit}{j:World}(h:mz B N H'.next Y w' x C I e a j):mz B N O G w x C I e a j:=by
 obtain⟨J,Z,i,g,m⟩:=h;exact⟨J,Z,i,M.trans g,m⟩
def Dw:=@mz.trans
section
variable {P:Program} {B:Bs} {G:Gh} {H H':Hp} {w:World}
def Ia(h:TR N G E a){x:Operand}(Z:aS E x=some c):VR G c (a.eval x):=by
 cases x with
 |tmp t=>simp only[aS,aI]at Z;subst Z;exact h.bG t
 |const v=>exact yC Z
 |global g=>simp[aS]at Z
 |func f=>simp only[aS,aI]at Z;subst Z;exact .bm (vs:=[]) rfl au
def TR.d0(h:TR N G E a)(xs:Array Operand):w1 G E a xs:=fun _ _ _ hc=>Ia h hc
theorem Xx{d:Nat}(h:VR G (E.at d) (a.tmps.getD d undef)):(match E.at d with|.bool b=>some b |_=>none)=(match a.tmps[d]? with|some (.bool b)=>some b |_=>none):=by
 rw[kS]at h;cases hd:a.tmps[d]? with
 |none=>
  rw[hd]at h;simp only[Option.getD_none,undef]at h;generalize E.at d=c at h;cases h;rfl
 |some v=>
  rw[hd]at h;simp only[bz]at h;generalize E.at d=c at h;cases h<;>rfl
theorem Xy{j:Nat}(h:∀d,(ops[j]?).bind (·.dst)=some d->VR G (E.at d) (a.tmps.getD d undef)):C1 ops.toList E j=yielded ops a.tmps j:=by
 unfold C1 yielded;rw[wZ];cases hd:(ops[j]?).bind (·.dst)with
 |none=>rfl
 |some d=>exact Xx (h d hd)
theorem MA(h:∀j b d,o.guard=some (j,b)->(ops[j]?).bind (·.dst)=some d->VR G (E.at d) (a.tmps.getD d undef)):kN ops.toList E o=Region.wanted o (yielded ops a.tmps):=by
 unfold kN Region.wanted;cases hg:o.guard with
 |none=>rfl
 |some p=>
  obtain⟨j,b⟩:=p;simp only[];rw[Xy (fun d hd=>h j b d hg hd)];cases yielded ops a.tmps j with
  |none=>rfl
  |some U=>cases b<;>cases U <;>rfl
theorem Dx(fit:Fit P)(hih:Snd P B n ih)(h:R B H w G)(hE:w1 G E a o.op.operands)(Z:eR P B.bX ih f E H o.op=.val c H')
 {K:Act->World->Prop}{Q:Exit->Act->World->Prop} (hK:∀v L C,VR C c v->Step B H.next G w H' L C->K (a.put o.dst v) L):o.wp P a w K Q:=by
 have O:∀s:Sem Next,wX P B H G w s c H'->execOp a.eval o=s->o.wp P a w K Q:=fun s hs he=>by
  obtain⟨m,L,C,v,h1,h2,h3,h4⟩:=hs;unfold Oper.wp;rw[he,h1];rcases h2 with rfl|⟨rfl,rfl⟩
  .exact hK v L C h3 h4
  .exact hK undef L C h3 h4
 unfold eR at Z;split at Z
 .rename_i U Y;unfold u5 at Z;split at Z
  .rename_i g hg;split at Z
   .rename_i k cap vs hgv j;have I:w1 G E a U.operands:=by rw[Y]at hE;exact hE
    have hgr:=I g (by simp[Call.operands,hg]) _ hgv;have J:=Dv (G:=G) (a:=a) (fun x hx=>I x (by simp[Call.operands,hg];exact .inr (by simpa using hx))) j;generalize hge:a.eval g=gv at hgr;cases hgr with
    |bm hl hv=>
     rename_i z;have hall:=J.append (G:=G) ⟨hl,hv⟩;obtain⟨⟨fn,hfn,i⟩,M⟩:=hih.call _ _ _ _ _ Z G w _ h hall;have hname:=fit.name _ _ hfn i;unfold Oper.wp;have hrun:(execOp a.eval o).run P w=.ok (.enter k ((U.args.toList.map a.eval)++z).toArray) w:=by
      have V:U.args.map a.eval=(U.args.toList.map a.eval).toArray:=HS;unfold execOp;rw[Y];simp only[fT,resolve,hg,hge,Deferred.ofValue,lV,fV,invoke,callFunc,run_program,hfn,hname];simp only[dI,dD];have hb:fn.body.isNone=false:=by cases hb:fn.body<;>simp_all
      rw[hb];simp[V]
     rw[hrun];show Calls P k _ w _;refine M.mono fun e L hr=>?_;obtain⟨v,C,rfl,h1,h2⟩:=hr;exact hK v L C h1 h2
   .simp at Z
  .rename_i b hg;split at Z
   .rename_i vs j;split at Z
    .rename_i v H1 hb;simp only[Res.val.injEq]at Z;obtain⟨rfl,rfl⟩:=Z;have I:w1 G E a U.operands:=by rw[Y]at hE;exact hE
     have J:=Dv (G:=G) (a:=a) (fun x hx=>I x (by simp[Call.operands,hg];simpa using hx)) j;have hs:=Xw (ty:=o.type) (consts:=U.args.map fun|.const _=>true |_=>false) h J hb;refine O _ hs ?_;have V:U.args.map a.eval=(U.args.toList.map a.eval).toArray:=HS;unfold execOp;rw[Y];simp only[resolve,hg,V];rfl
    .simp at Z
   .simp at Z
  .simp at Z
 .rename_i op hne;unfold iY at Z;split at Z
  .rename_i v H1 ho;simp only[Res.val.injEq]at Z;obtain⟨rfl,rfl⟩:=Z;exact O _ (Xv h hE ho) rfl
  .simp at Z
theorem Ib(fit:Fit P){n:Nat}{ih:zd3->Res}(j:Snd P B n ih){f N:Nat}{ops:qN}:∀(l:qA) {E E':ax}{H:Hp}{x:AX}{a:Act}{w:World}{G:Gh}{Q:Exit->Act->World->Prop},lB P B.bX ih f N ops.toList l E H=.done x E' H' ->
 R B H w G->TR N G E a->a.defers=[]->(∀e C U,mz B N H.next G w x E' H' e C U->Q e C U)->wpList P ops Q l a w
 |[],E,E',H,x,a,w,G,Q,hr,h,ht,hd,hQ=>by
  simp only[lB,Res.done.injEq]at hr;obtain⟨rfl,rfl,rfl⟩:=hr;exact hQ _ _ _ ⟨rfl,G,ht,lD h,hd⟩
 |o::l,E,E',H,x,a,w,G,Q,hr,h,ht,hd,hQ=>by
  have z:∀E H,(List.rec (motive:=fun _=>ax->Hp->Res) (fun E H=>.done .normal E H)
   (fun o _ I E H=>match kN ops.toList E o with
     |true=>match eR P B.bX ih f E H o.op with
      | .val v H=>lS I H (gB N E o.dst v)
      |_=>.aQ
     |false=>lS I H (gB N E o.dst dK)) l E H:Res)=lB P B.bX ih f N ops.toList l E H:=fun _ _=>rfl
  have L:lB P B.bX ih f N ops.toList (o::l) E H=match kN ops.toList E o with
   |true=>match eR P B.bX ih f E H o.op with
    | .val v H=>lS (lB P B.bX ih f N ops.toList l) H (gB N E o.dst v)
    |_=>.aQ
   |false=>lS (lB P B.bX ih f N ops.toList l) H (gB N E o.dst dK):=rfl
  rw[L]at hr;have V:=MA (G:=G) (E:=E) (a:=a) (ops:=ops) (o:=o) (fun _ _ d _ _=>ht.bG d);have Y:∀M v,(a.put M v).defers=[]:=fun M v=>by cases M<;>exact hd
  cases Z:kN ops.toList E o with
  |true=>
   rw[Z]at hr V;simp only[]at hr;split at hr
   .rename_i v H1 O;cases hp:gB N E o.dst v with
    |none=>rw[hp]at hr;simp[lS]at hr
    |some E1=>
     rw[hp]at hr;simp only[lS]at hr;unfold wpList;rw[ah V.symm];refine .inl (Dx fit j h (ht.d0 _) O fun i U g hv m=>?_);have J:TR N g E1 (a.put o.dst i):=(ht.mono m.ext).put hv hp;exact Ib fit j l hr m.r J (Y _ _) (fun e a w he=>hQ _ _ _ (Dw m he))
   .simp at hr
  |false=>
   rw[Z]at hr V;simp only[]at hr;cases hp:gB N E o.dst dK with
   |none=>rw[hp]at hr;simp[lS]at hr
   |some E1=>
    rw[hp]at hr;simp only[lS]at hr;unfold wpList;rw[af (by rw[<-V];simp)];exact Ib fit j l hr h (ht.put (Av G) hp) (Y _ _) hQ
end
section
variable {P:Program} {B:Bs} {G:Gh} {H H':Hp} {w:World} {cfg:Cfg}
theorem Sx.a5:∀{a b:Sx},Sx.beq a b=true->a=b
 | .var i,b,h=>by
   cases b<;>simp only[Sx.beq,dI]at h;rw[kh h]
 | .lit i,b,h=>by
   cases b<;>simp only[Sx.beq,dI,pj]at h;rw[h]
 | .ca o k x y,b,h=>by
   cases b<;>simp only[Sx.beq,dI,jN]at h;obtain⟨⟨⟨rfl,rfl⟩,Z⟩,g⟩:=h;rw[Sx.a5 Z,Sx.a5 g]
 | .di k x,b,h=>by
   cases b<;>simp only[Sx.beq,dI,jN]at h;obtain⟨rfl,Z⟩:=h;rw[Sx.a5 Z]
mutual
theorem AV.a5:∀{a b:AV},AV.beq a b=true->a=b
 | .int k a,b,h=>by
   cases b<;>simp only[AV.beq,jN,pj,dI]at h;obtain⟨rfl,rfl⟩:=h;rfl
 | .sx k a,b,h=>by
   cases b<;>simp only[AV.beq,jN,dI]at h;obtain⟨rfl,i⟩:=h;rw[Sx.a5 i]
 | .bool a,b,h=>by
   cases b<;>simp only[AV.beq,pj,dI]at h;subst h;rfl
 | .aq a,b,h=>by
   cases b<;>simp only[AV.beq,pj,dI]at h;subst h;rfl
 | .bC,b,h=>by cases b<;>simp only[AV.beq,dI]at h;rfl
 | .bi,b,h=>by cases b<;>simp only[AV.beq,dI]at h;rfl
 | .bL,b,h=>by cases b<;>simp only[AV.beq,dI]at h;rfl
 | .ak,b,h=>by cases b<;>simp only[AV.beq,dI]at h;rfl
 | .ptr r o,b,h=>by
   cases b<;>simp only[AV.beq,cj,dI]at h;obtain⟨i,g⟩:=h;rw[kh i,kh g]
 | .bj a,b,h=>by
   cases b<;>simp only[AV.beq,dI]at h;rw[sf h]
 | .sl r o l z,b,h=>by
   cases b<;>simp only[AV.beq,cj,dI]at h;obtain⟨⟨⟨i,g⟩,m⟩,U⟩:=h;rw[kh i,kh g,kh m,kh U]
 | .aE a,b,h=>by
   cases b<;>simp only[AV.beq,dI]at h;rw[MB h]
 | .map r,b,h=>by
   cases b<;>simp only[AV.beq,dI]at h;rw[kh h]
 | .bm f a,b,h=>by
   cases b<;>simp only[AV.beq,cj,dI]at h;rw[kh h.1,sf h.2]
 | .agg a,b,h=>by
   cases b<;>simp only[AV.beq,dI]at h;rw[sf h]
 | .aX a,b,h=>by
   cases b<;>simp only[AV.beq,dI]at h;rw[sf h]
theorem sf:∀{a b:qt},mN a b=true->a=b
 |[],b,h=>by cases b<;>simp only[mN,dI]at h;rfl
 |a::x,b,h=>by
  cases b<;>simp only[mN,cj,dI]at h;rw[AV.a5 h.1,sf h.2]
theorem MB:∀{a b:List qt},wN a b=true->a=b
 |[],b,h=>by cases b<;>simp only[wN,dI]at h;rfl
 |a::x,b,h=>by
  cases b<;>simp only[wN,cj,dI]at h;rw[sf h.1,MB h.2]
end
theorem MC{I β:Type}:∀{a b:List (I×β)},a.map (·.1)=b.map (·.1)->a.map (·.2)=b.map (·.2)->a=b
 |[],b,h,_=>by cases b<;>simp at h;rfl
 |(x,y)::a,b,h,j=>by
  cases b with
  |nil=>simp at h
  |cons c b=>
   obtain⟨u,v⟩:=c;simp only[dZ,dN]at h j;obtain⟨rfl,h⟩:=h;obtain⟨rfl,j⟩:=j;rw[MC h j]
def HB.a5{a b:HB}(h:HB.beq a b=true):a=b:=by
 cases a<;>cases b<;>simp only[HB.beq,cj,dI,pj]at h
 .obtain⟨⟨i,g⟩,m⟩:=h;rw[sf i,kh g,m]
 .rw[MC (sf h.1) (sf h.2)]
def pn(P:Program)(cfg:Cfg)(ih:zd3->Res)(f N:Nat)(Y:qA):List Rec->qA->ax->Hp->ax->Hp->Prop
 |[],[],E,H,E',H'=>E=E'/\H=H'
 |r::rs,o::l,E,H,E',H'=>r.o=o/\r.E=E/\r.H=H/\kN Y E o=r.did/\(r.did=true->eR P cfg ih f E H o.op=.val r.val r.H')/\(r.did=false->r.val=dK/\r.H'=H) /\
  ∃E1,gB N E o.dst r.val=some E1/\pn P cfg ih f N Y rs l E1 r.H' E' H'
 |_,_,_,_,_,_=>False
theorem AG{ih:zd3->Res}{f N:Nat}{Y:qA}:∀{l:qA}{E E':ax}{H H':Hp}{rs:List Rec},kO P cfg ih f N Y l E H=.done E' H' rs->pn P cfg ih f N Y rs l E H E' H'
 |[],E,E',H,H',rs,h=>by
  simp only[kO,zf7.done.injEq]at h;obtain⟨rfl,rfl,rfl⟩:=h;exact⟨rfl,rfl⟩
 |o::l,E,E',H,H',rs,h=>by
  simp only[kO]at h;cases L:kN Y E o with
  |true=>
   rw[L]at h;simp only[]at h;cases m:eR P cfg ih f E H o.op with
   |val v H1=>
    rw[m]at h;simp only[]at h;cases hp:gB N E o.dst v with
    |none=>rw[hp]at h;simp[ri,rh]at h
    |some E1=>
     rw[hp]at h;simp only[ri]at h;cases hr:kO P cfg ih f N Y l E1 H1 with
     |aQ=>rw[hr]at h;simp[rh]at h
     |done j i g=>
      rw[hr]at h;simp only[rh,zf7.done.injEq]at h;obtain⟨rfl,rfl,rfl⟩:=h;exact⟨rfl,rfl,rfl,L,fun _=>m,au,E1,hp,AG hr⟩
   |done _ _ _=>rw[m]at h;simp at h
   |aQ=>rw[m]at h;simp at h
  |false=>
   rw[L]at h;simp only[]at h;cases hp:gB N E o.dst dK with
   |none=>rw[hp]at h;simp[ri,rh]at h
   |some E1=>
    rw[hp]at h;simp only[ri]at h;cases hr:kO P cfg ih f N Y l E1 H with
    |aQ=>rw[hr]at h;simp[rh]at h
    |done j i g=>
     rw[hr]at h;simp only[rh,zf7.done.injEq]at h;obtain⟨rfl,rfl,rfl⟩:=h;exact⟨rfl,rfl,rfl,L,au,fun _=>⟨rfl,rfl⟩,E1,hp,AG hr⟩
def iK(rs:List Rec)(U:ax)(e:Nat):ax:=match rs[e]? with
 |some r=>r.E
 |none=>U
theorem Ic{ih:zd3->Res}{f N:Nat}{Y:qA}:∀{rs:List Rec}{l:qA}{E E':ax}{H H':Hp},pn P cfg ih f N Y rs l E H E' H'->rs.length=l.length
 |[],[],_,_,_,_,_=>rfl
 |[],_::_,_,_,_,_,h=>by simp[pn]at h
 |_::_,[],_,_,_,_,h=>by simp[pn]at h
 |r::rs,o::l,E,E',H,H',h=>by
  obtain⟨_,_,_,_,_,_,E1,_,h⟩:=h;simp[Ic h]
def Ie{f:Nat}{Y:qA}{rs:List Rec}{l:qA}{U:ax}{H H':Hp}(h:pn P cfg ih f N Y rs l E H U H'):iK rs U 0=E/\cO rs H' 0=H:=by
 cases rs with
 |nil=>
  cases l with
  |nil=>obtain⟨rfl,rfl⟩:=h;exact⟨rfl,rfl⟩
  |cons o l=>simp[pn]at h
 |cons r rs=>
  cases l with
  |nil=>simp[pn]at h
  |cons o l=>
   obtain⟨_,i,g,_⟩:=h;exact⟨by simp[iK,i],by simp[cO,g]⟩
structure AtD (P:Program) (cfg:Cfg) (ih:zd3->Res) (f N:Nat) (all:qA) (o:Oper) (r:Rec) (E E1:ax) (H H1:Hp):Prop where
 eo:r.o=o
 eE:r.E=E
 eH:r.H=H
 er:kN all E o=r.did
 dR:r.did=true->eR P cfg ih f E H o.op=.val r.val H1
 no:r.did=false->r.val=dK/\H1=H
 put:gB N E o.dst r.val=some E1
 eH':r.H'=H1
theorem w5{ih:zd3->Res}{f N:Nat}{Y:qA}:∀{rs:List Rec}{l:qA}{E E':ax}{H H':Hp},pn P cfg ih f N Y rs l E H E' H'->∀{i:Nat}{r:Rec},rs[i]?=some r ->
 ∃o,l[i]?=some o/\AtD P cfg ih f N Y o r (iK rs E' i) (iK rs E' (i+1)) (cO rs H' i) (cO rs H' (i+1))
 |[],_,_,_,_,_,_,i,r,hr=>by simp at hr
 |r::rs,[],_,_,_,_,h,_,_,_=>by simp[pn]at h
 |r::rs,o::l,E,E',H,H',h,i,r',hr=>by
  obtain⟨M,g,V,L,J,U,E1,C,O⟩:=h;obtain⟨z,j⟩:=Ie O;cases i with
  |zero=>
   simp at hr;subst hr;have Z:iK (r::rs) E' 1=E1:=by rw[<-z];simp[iK]
   have m:cO (r::rs) H' 1=r.H':=by rw[<-j];simp[cO]
   have e3:iK (r::rs) E' 0=E:=by simp[iK,g]
   have e4:cO (r::rs) H' 0=H:=by simp[cO,V]
   refine⟨o,rfl,?_⟩;rw[Z,m,e3,e4];exact⟨M,g,V,L,J,fun I=>⟨(U I).1,(U I).2⟩,C,rfl⟩
  |succ i=>
   obtain⟨o',g1,g2⟩:=w5 O (i:=i) (r:=r') (by simpa using hr);have Z:∀k,iK (r::rs) E' (k+1)=iK rs E' k:=fun k=>by simp[iK]
   have m:∀k,cO (r::rs) H' (k+1)=cO rs H' k:=fun k=>by simp[cO]
   refine⟨o',by simpa using g1,?_⟩;rw[Z,Z,m,m];exact g2
def uj(op:Op):Bool:=match iS op with|.b3=>true |_=>false
def tf(op:Op):Bool:=match iS op with|.read=>true |_=>false
def Xz{op:Op}(j:uj op=true):∃u,∀X,dM P D E X op=ret X u:=by
 cases op<;>simp only[uj,iS,dI]at j<;>simp only[dM]
 case move x=>exact⟨_,fun X=>rfl⟩
 case assign x=>exact⟨_,fun X=>rfl⟩
 case pick c a b=>
  unfold CO;cases aS E c with
  |none=>exact⟨none,fun X=>rfl⟩
  |some v=>cases v with
   |bool t=>cases t<;>exact⟨_,fun X=>rfl⟩
   |_=>exact⟨none,fun X=>rfl⟩
 case build t parts=>
  unfold CP;cases mw E parts.toList with
  |none=>exact⟨none,fun X=>rfl⟩
  |some C=>exact⟨_,fun X=>rfl⟩
 case nilCheck x=>
  unfold CR;cases aS E x with
  |none=>exact⟨none,fun X=>rfl⟩
  |some v=>cases v with
   |ptr r o=>exact⟨some (.ptr r o),fun X=>rfl⟩
   |bj g=>exact⟨some (.bj g),fun X=>rfl⟩
   |_=>exact⟨none,fun X=>rfl⟩
 case binOp op t x y yt=>
  unfold CS;cases aS E x with
  |none=>exact⟨none,fun X=>rfl⟩
  |some v=>cases aS E y with
   |none=>exact⟨none,fun X=>rfl⟩
   |some u=>exact⟨_,fun X=>rfl⟩
 case unOp op t x=>
  unfold CT;cases aS E x with
  |none=>exact⟨none,fun X=>rfl⟩
  |some v=>exact⟨_,fun X=>rfl⟩
 case makeFunc fn first captured=>
  unfold CU;cases fn with
  |func f=>
   cases first.toList with
   |nil=>cases jx E captured.toList with
    |none=>exact⟨none,fun X=>rfl⟩
    |some vs=>exact⟨some (.bm f vs),fun X=>rfl⟩
   |cons _ _=>exact⟨none,fun X=>rfl⟩
  |_=>exact⟨none,fun X=>rfl⟩
 case fieldAddr t x f=>
  unfold CV;cases aS E x with
  |none=>exact⟨none,fun X=>rfl⟩
  |some v=>exact⟨_,fun X=>rfl⟩
 case field t x f=>
  unfold CW;cases aS E x with
  |none=>exact⟨none,fun X=>rfl⟩
  |some v=>exact⟨_,fun X=>rfl⟩
 case indexAddr t x i=>
  unfold CX;cases aS E x with
  |none=>exact⟨none,fun X=>rfl⟩
  |some v=>cases aS E i with
   |none=>exact⟨none,fun X=>rfl⟩
   |some u=>exact⟨_,fun X=>rfl⟩
 case index t x i=>
  unfold CY;cases aS E x with
  |none=>exact⟨none,fun X=>rfl⟩
  |some v=>cases aS E i with
   |none=>exact⟨none,fun X=>rfl⟩
   |some u=>exact⟨_,fun X=>rfl⟩
 case extract x i=>
  unfold C0;cases aS E x with
  |none=>exact⟨none,fun X=>rfl⟩
  |some v=>exact⟨_,fun X=>rfl⟩
 all_goals exact⟨none,fun X=>rfl⟩
def If{op:Op}(j:uj op=true)(h:dM P D E H op=some (v,H')):H'=H/\∀X,dM P D E X op=some (v,X):=by
 obtain⟨u,z⟩:=Xz (P:=P) (D:=D) (E:=E) j;rw[z]at h;obtain⟨rfl,rfl⟩:=my h;exact⟨rfl,fun X=>by rw[z];rfl⟩
def Ig{op:Op}(j:tf op=true)(h:eR P cfg ih f E H op=.val v H'):H'=H:=by
 cases op<;>simp only[tf,iS,dI]at j<;>simp only[eR,dM]at h
 case load t x=>
  unfold Ad at h;split at h
  .cases z:gL P H t ‹AV› <;>rw[z]at h<;>simp[ret,iY]at h;exact h.2.symm
  .simp[iY]at h
 case slice t x lo hi mx=>
  unfold Ah at h;split at h
  .rename_i Z lv V _ _ _;cases z:ph P H t Z lv V<;>rw[z]at h<;>simp[ret,iY]at h;exact h.2.symm
  .simp[iY]at h
 case convert s d x=>
  unfold Ae at h;split at h
  .cases z:mM P H s d ‹AV› <;>rw[z]at h<;>simp[ret,iY]at h;exact h.2.symm
  .simp[iY]at h
 case lookup t m k ok=>
  unfold Ai at h;split at h
  .rename_i mv O _ _;cases z:mL P H t mv O ok<;>rw[z]at h<;>simp[ret,iY]at h;exact h.2.symm
  .simp[iY]at h
 case call c=>
  unfold u5 at h;cases hc:c.callee with
  |value g=>rw[hc]at j;simp at j
  |invoke g m=>rw[hc]at j;simp at j
  |builtin b=>
   rw[hc]at j h;simp only[]at h;split at h
   .rename_i vs _;cases b<;>simp only[dI]at j<;>simp only[sV]at h;all_goals
     split at h
     .rename_i Y H1 hb;simp only[Res.val.injEq]at h;obtain⟨rfl,rfl⟩:=h;split at hb
      .split at hb
       .simp only[cT]at hb;exact hb.2.symm
       .simp at hb
      .simp at hb
     .simp at h
   .simp at h
def XA(Z:u9 o=true)(h:dM P D E H o.op=some (v,H')):∃j,H'=H.alloc j:=by
 obtain⟨M,V,I,J,L,guard⟩:=o;simp only[]at h;cases V<;>simp only[u9,iS,dI]at Z<;>simp only[dM,reduceCtorEq]at h
 case alloc t=>
  unfold z8 at h;split at h
  .simp only[cT]at h;exact⟨_,h.2.symm⟩
  .simp at h
 case box t x=>
  unfold z9 at h;split at h
  .simp only[cT]at h;exact⟨_,h.2.symm⟩
  .simp at h
 case buildSlice t len parts=>
  unfold Ac at h;split at h
  .unfold et at h;(repeat' split at h)<;>first|(simp only[cT]at h;exact⟨_,h.2.symm⟩)|simp at h
  .simp at h
 case makeMap t r=>
  unfold Af at h;split at h
  .simp only[cT]at h;exact⟨_,h.2.symm⟩
  .simp at h
 case makeSlice t l c=>
  unfold Ag at h;split at h
  .unfold j9 at h;(repeat' split at h)<;>first|(simp only[cT]at h;exact⟨_,h.2.symm⟩)|simp at h
  .simp at h
def w6{op:Op}(I:∀c,op≠.call c):eR P cfg ih f E H op=.val v H'↔dM P cfg.cl E H op=some (v,H'):=by
 have:eR P cfg ih f E H op=iY (dM P cfg.cl E H op):=by
  unfold eR;split
  .exact(I _ rfl).elim
  .rfl
 rw[this];cases dM P cfg.cl E H op with
 |none=>simp[iY]
 |some p=>obtain⟨a,b⟩:=p;simp[iY]
def XB(Z:oA o=false)(h:eR P cfg ih f E H o.op=.val v H'):H'=H\/∃j,H'=H.alloc j:=by
 cases m:iS o.op with
 |cU=>simp[oA,m]at Z
 |read=>exact .inl (Ig (by simp[tf,m]) h)
 |b3=>
  have I:∀c,o.op≠.call c:=fun c e=>by
   rw[e]at m;simp only[iS]at m;split at m<;>simp at m
  exact .inl (If (P:=P) (by simp[uj,m]) ((w6 I).1 h)).1
 |make=>
  have I:∀c,o.op≠.call c:=fun c e=>by
   rw[e]at m;simp only[iS]at m;split at m<;>simp at m
  exact .inr (XA (by simp[u9,m]) ((w6 I).1 h))
end
end Go.Ab
