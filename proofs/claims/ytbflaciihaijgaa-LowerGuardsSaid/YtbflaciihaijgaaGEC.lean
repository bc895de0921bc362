/- Lemmas for the last file. -/
import Derived.Test.YtbflaciihaijgaaGEB
set_option linter.all false
set_option maxHeartbeats 32000000
namespace Go.Ab
set_option maxRecDepth 20000
open Go
abbrev qB:=Array Bool
abbrev qp:=List Int
variable{qd:Prop}
def tn(h:qd:=by simpa using J):=h
def xd(h:qd:=by simp[Builtin.lenOf]):=h
def u0(h:qd:=by rw[List.length_take];omega):=h
def u3(h:qd:=by simp[Builtin.len_,cO hd,goInt]):=h
def dD(h:qd:=by simp[Op.operands]):=h
def Ap(h:qd:=by simp only[Op.operands,List.mem_toArray,List.mem_map];exact⟨p,hp,rfl⟩):=h
def Aq(h:qd:=by apply Array.ext';simp):=h
def ot:=@List.flatten_cons
def xe:=@Nat.zero_mul
def As:=@Go.run_firstCells_some
def pA:=@List.mem_of_getElem?
def ft:=@List.drop_zero
def xf:=@List.take_length
def ca:=@Bool.and_eq_true
def u4:=@Nat.le_of_ble_eq_true
def cE:=@Bool.false_eq_true
def At:=@List.drop_append_of_le_length
def u5:=@List.all_append
def Dz:=@List.length_eq_zero_iff
def ji:=@decide_eq_true_eq
def bK:=@Option.getD_some
def mA:=@List.getElem?_set
def u6:=@Array.getElem?_toList
def eU:=@List.cons.injEq
def m1:=@Nat.mul_one
def pB:=@Go.Code.wp_mono
def eJ:=@List.map_cons
def j0:=And.intro @ca @ji
end Go.Ab
namespace Go.Ab
set_option maxRecDepth 20000
open Go Go.RowKit
variable{cs:ql}{vs:qt}{s n b J N:Nat}{t u e C:TypeId}{x c m y k v:AV}{W Z I:Value}{L d:TypeDesc}{a:Act}{w':World}{o:Oper}{E:ax}{D:BinOp->Sx->Sx->qA}{ops:qG}{ih:zac->Res}{f:FuncId}
section
variable {P:Program} {B:Bs} {G:Gh} {H H':Hp} {w:World}
def bZ.bI(h:bZ G cs vs)(I:cs.all AV.one=true):∀v∈vs,v.oneCell'=true:=fun v Y=>by
 obtain⟨i,J,rfl⟩:=Aa Y;have Z:i<cs.length:=by rw[h.1];exact J
 rw[(h.2 i _ _ (bc Z) (bc J)).bI];exact gk.1 I _ (dU Z)
def Lq{xs:List ql}(U:∀(i:Nat) (I:ql),xs[i]?=some I->I.length=s):xs.flatten.length=xs.length*s /\
 ∀(i j:Nat) (c:AV),j<s->xs.flatten[i*s+j]?=some c->∃I,xs[i]?=some I/\I[j]?=some c:=by
 induction xs with
 |nil=>exact⟨aE,aE⟩
 |cons I xs ih=>
  have hr:=U 0 I rfl;obtain⟨o,m⟩:=ih (fun i r J=>U (i+1) r tn);refine⟨by simp[o,hr,uU];omega,fun i j c Z hc=>?_⟩;rw[ot]at hc;cases i with
  |zero=>
   rw[xe,bX,kC ac]at hc;exact⟨I,rfl,hc⟩
  |succ i=>
   rw[lC (by rw[hr,uU];omega)]at hc;rw[hr,show(i+1)*s+j-s=i*s+j by rw[uU];omega]at hc;obtain⟨r,Y,M⟩:=m i j c Z hc;exact⟨r,pr,M⟩
def Lr{k:Nat}(h:k<n*s):k/s<n/\k%s<s/\k=k/s*s+k%s:=by
 have U:0<s:=by
  rcases Nat.eq_zero_or_pos s with e|e
  .subst e;omega
  .exact e
 refine⟨(Nat.div_lt_iff_lt_mul U).2 h,Nat.mod_lt _ U,?_⟩;have:=Nat.div_add_mod k s;rw[Nat.mul_comm]at this;omega
def Ls(h:R B H w G){lo V:qr}{Z Y:qK}(O:VR G x W)(M:rP G lo Z)(L:rP G V Y)(U:lc P H t x lo V=some c):
 ∃v,(Instr.sliceAt t W Z Y none).run P w=.ok v w/\VR G c v:=by
 unfold lc at U;split at U
 .rename_i r J;split at U
  .rename_i n e cs I C hd hg;split at U
   .rename_i z l h' hz bl bh;split at U
    .rename_i hc;obtain⟨h1,h2,h3⟩:=hc;cases O with
     |ptr hr=>
      rename_i b o x;have hf:=h.bm _ _ _ _ _ _ _ hr hg;have hb:=An (P:=P) (w:=w) (cap:=n) M L bl bh h1 h2 (az _) false;have m:(Instr.sliceAt t (.pointer (some ⟨b,o+J,none⟩)) Z Y none).run P w=.ok (.slice (some (if n=l then ⟨b,o+J,none⟩else ⟨b,o+J+l*z,none⟩)) (h'-l) (n-l)) w:=by
       simp only[Instr.sliceAt,dy,cO hd,dC];simp[Instr.sureAddr,hb,iH hz,kG]
      split at U
      .rename_i e1;simp only[aC]at U;subst U;subst e1;rw[rJ]at m;exact⟨_,m,.lst0 _ _⟩
      .rename_i hne;simp only[aC]at U;subst U;rw[ao ac]at m;refine⟨_,m,?_⟩;rw[iE];refine .sl hr ac ?_;have e3:(n-l)*z+l*z=n*z:=z0;omega
    .simp at U
   .simp at U
  .simp at U
 .exact Lo O M L U
def Au(h:R B H w G){xv:Value}{l:ql}(hx:VR G x xv)(U:eF H s x=some (n,l)):
 ∃M,bZ G l M/\M.length=n*s/\(∀L,(Builtin.lenOf xv).run P L=.ok n L)/\(∀L,(∀a,L.cell? a=w.cell? a)->(Builtin.firstCells s n xv).run P L=.ok M.toArray L):=by
 unfold eF at U;split at U
 .rename_i r off W z;cases hx with
  |sl hr hl hc=>
   rename_i b o x O;split at U
   .rename_i cs imm tip hg;simp only[]at U;split at U
    .rename_i hlen;simp only[b9]at U;obtain⟨rfl,rfl⟩:=U;obtain⟨vs,h1,h2⟩:=(((h.cells _ _ _ _ _ _ _ hr hg).drop off).take (W*s)).list;have C:vs.length=W*s:=by rw[<-h1.1];exact hlen
     refine⟨vs,h1,C,fun L=>xd,fun L m=>?_⟩;exact As L s W _ W O vs C (fun j v hj=>by rw[m,kG];exact h2 j v hj)
    .simp at U
   .simp at U
 .rename_i Y;split at U
  .rename_i hall;simp only[b9]at U;obtain⟨rfl,rfl⟩:=U;have V:∀(i:Nat) (I:ql),Y[i]?=some I->I.length=s:=fun i I hi=>by
    have:=gk.1 hall I (pA hi);simpa using this
   obtain⟨hfl,hfg⟩:=Lq V;cases hx with
   |lst0 a O=>
    refine⟨[],m0 G,aE,fun L=>xd,fun L m=>?_⟩;cases a with
    |none=>simp[Builtin.firstCells]
    |some a=>
     simp[Builtin.firstCells];rfl
   |aq vs hz hF hv hcap=>
    rename_i b o O z;have hzs:Y.length=0\/z=s:=by
     cases Y with
     |nil=>exact .inl rfl
     |cons I Y=>exact .inr (by rw[<-hz 0 I rfl,V 0 I rfl])
    have hh:gl G w b o Y.flatten:=fun k c hk=>by
     have J:k<Y.length*s:=by rw[<-hfl];exact(dx.1 hk).1
     obtain⟨d1,d2,d3⟩:=Lr J;have hz':z=s:=by
      rcases hzs with e|e
      .rw[e]at J;omega
      .exact e
     subst hz';obtain⟨I,g1,g2⟩:=hfg (k/z) (k%z) c d2 (by rw[<-d3];exact hk);refine⟨vs (k/z) (k%z),?_,hv _ _ I c g1 g2⟩;have:=h.b1 _ _ _ (hF (k/z) (k%z) d1 d2);rw[show o+k=o+k/z*z+k%z by omega];exact this
    obtain⟨M,h1,h2⟩:=hh.list;have C:M.length=Y.length*s:=by rw[<-h1.1];exact hfl
    refine⟨M,h1,C,fun L=>xd,fun L m=>?_⟩;exact As L s Y.length _ Y.length O M C (fun j v hj=>by rw[m,kG];exact h2 j v hj)
  .simp at U
 .simp only[b9]at U;obtain⟨rfl,rfl⟩:=U;cases hx;exact⟨[],m0 G,aE,fun L=>xd,fun L m=>by simp[Builtin.firstCells]⟩
 .rename_i b;split at U
  .rename_i e;subst e;simp only[b9]at U;obtain⟨rfl,rfl⟩:=U;cases hx with
   |ag Z _ hb=>
    subst hb;have hsz:Z.data.toList.length=Z.size:=by show Z.data.toList.length=Z.data.size;simp
    refine⟨Z.data.toList.map fun x=>.int .u8 x.toNat,⟨aE,fun i c v hc hv=>?_⟩,aE,fun L=>by simp[Builtin.lenOf,hsz],fun L m=>?_⟩
    .rw[ii]at hc hv;cases hi:Z.data.toList[i]? with
     |none=>rw[hi]at hc;simp at hc
     |some u=>
      rw[hi]at hc hv;simp only[iG,aC]at hc hv;subst hc hv;exact .int _ _
    .simp only[Builtin.firstCells,iF]
     congr 1
     apply jX;have:(Z.extract 0 Z.data.toList.length).data.toList=Z.data.toList:=by
      rw[Lib.extract_data,ft,Nat.sub_zero,xf]
     simp only[Ae,this]
  .simp at U
 .simp at U
def xg(z:Array Value)(n:Nat):(Builtin.zeroCells z n).toList.length=n*z.size:=by simp[Builtin.zeroCells]
def DA{ty:TypeId}(hd:P.underlying t=some (.slice e))(m:P.underlying u=some L)(M:∀k,L≠.int k)(U:br P e=some s)
 {a:Option Addr}{len cap:Nat} (z:len+n<=cap) {o:qt} (Z:(Builtin.lenOf W).run P w=.ok n w) (Y:(Builtin.firstCells s n W).run P w=.ok o.toArray w) :
 (Builtin.append_ #[t,u] ty #[.slice a len cap,W]).run P w=(match a with
   |some a=>((storeCells (a.add (len*s)) o).run P w).andThen fun _ V=>.ok (.slice (some a) (len+n) cap) V
   |none=>.ok (.slice none (len+n) cap) w):=by
 have O:(match L with|.int _=>true |_=>false)=false:=by cases L<;>first|rfl|exact(M _ rfl).elim
 simp only[Builtin.append_];simp[cO hd,cO m,iH U,Z];rw[aB z,Y];cases a<;>simp
theorem Lt{ty:TypeId}(hd:P.underlying t=some (.slice e))(V:P.underlying u=some L)(M:∀k,L≠.int k)(J:br P e=some s)(C:cw P e=some b)
  (hz:∀w,(zeroValue e).run P w=.ok Z w)
 {a:Option Addr}{len cap:Nat} (z:cap<len+n) (O:(len+n)*b<=cX) (m:len+n<=cX) {ov Y:qt} (hl:(Builtin.lenOf W).run P w=.ok n w) (hf:(Builtin.firstCells s n W).run P w.drew=.ok Y.toArray w.drew)
 (ho:(Builtin.firstCells s len (.slice a len cap)).run P w.drew=.ok ov.toArray w.drew) :
 (Builtin.append_ #[t,u] ty #[.slice a len cap,W]).run P w=.ok (.slice (some ⟨w.heap.size,0,none⟩) (len+n) (grownCap w (len+n) cap e))
   (w.drew.alloc (.cells (ov++Y++(Builtin.zeroCells Z.cells (grownCap w (len+n) cap e-(len+n))).toList).toArray e)):=by
 have hz':(match L with|.int _=>true |_=>false)=false:=by cases L<;>first|rfl|exact(M _ rfl).elim
 obtain⟨i,hi,I⟩:∃i,P.info? e=some i/\i.bytes=b:=by simpa [cw,eI]using C
 have hm:cX=70368744177664:=rfl;rw[hm]at O m;have o:¬(281474976710656<Builtin.nextslicecap (len+n) cap*b):=by
  have:=growslice_fits z (bytes:=b) ac;omega
 have U:¬(9223372036854775807<((len:Int)+(n:Int))):=ac;have h1:¬(len+n<=cap):=ac;simp only[Builtin.append_];simp[cO hd,cO V,iH J,hl,h1,pz hi,I,U,o,Question.forced,ho,hf,hz,newRow,grownCap]
 congr 2
 apply jX;simp
def R.heap(h:R B H w G)(e:w'.heap=w.heap):R B H w' G:=by
 have k:∀a,w'.cell? a=w.cell? a:=fun a=>by simp[World.cell?,e]
 have V:∀a,w'.frozen? a=w.frozen? a:=fun a=>by simp[World.frozen?,e]
 exact{
  bD:=by rw[e];exact h.bD
  b8:=h.b8
  lt:=fun r b o x hr=>by rw[e];exact h.lt r b o x hr
  cells:=fun r b o x cs imm Z hr hc j c I=>by rw[k];exact h.cells r b o x cs imm Z hr hc j c I
  aY:=h.aY
  ext:=h.ext
  bm:=h.bm
  bb:=fun r b o x cs imm Z hr hc j I M=>by rw[k,V];exact h.bb r b o x cs imm Z hr hc j I M
  apart:=h.apart
  map:=fun r b o x z hr hc=>by rw[e];exact h.map r b o x z hr hc
  aS:=h.aS
  b1:=fun b o v Y=>by rw[k];exact h.b1 b o v Y
  val:=h.val
  cz:=h.cz}
def Step.cC{W:Nat}{O:Gh}(h:Step B W G w.drew H' w' O):Step B W G w H' w' O:=
 ⟨h.r,h.ext,⟨h.fr.os,h.fr.tape,h.fr.output,h.fr.size,h.fr.block⟩,h.new,h.bS,h.mono,h.dj⟩
def gl.dp{o off len:Nat}(Y:gl G w b o cs)(U:off+len*s=cs.length){cap:Nat}:
 ∃W,bZ G (cs.drop off) W/\W.length=len*s/\∀L,(∀a,L.cell? a=w.cell? a)->(Builtin.firstCells s len (.slice (some ⟨b,o+off,none⟩) len cap)).run P L=.ok W.toArray L:=by
 obtain⟨vs,Z,m⟩:=(Y.drop off).list;have C:vs.length=len*s:=by rw[<-Z.1,ib];omega
 exact⟨vs,Z,C,fun L V=>As L s len _ len cap vs C (fun j v I=>by rw[V,kG];exact m j v I)⟩
def DB(h:hB P u=true):∃d,P.underlying u=some d/\∀k,d≠.int k:=by
 unfold hB at h;split at h
 .rename_i e hd;exact⟨_,hd,aE⟩
 .rename_i hd;exact⟨_,hd,aE⟩
 .simp at h
def Lu(h:R B H w G)(keep:Bool)(s:Nat)(sv:AV):Step B H.next G w (fN keep H s sv) w G:=by
 unfold fN;split
 .rename_i r off len z;split
  .rename_i cs imm hg;split
   .rename_i hc;simp only[ca]at hc;have h1:off+len*s<cs.length:=by simpa [hZ]using hc.1.2
    have h2:=u4 hc.2;generalize off+len*s=m at h1 h2;have hgs:∀W b',(H.set r (.cells (cs.take m) imm true)).get W=some b'->(W=r/\b'=.cells (cs.take m) imm true)\/(W≠r/\H.get W=some b'):=fun W b' he=>by
     rw[bi]at he;split at he
     .rename_i e;simp only[aC]at he;exact .inl ⟨e,he.symm⟩
     .rename_i e;exact .inr ⟨e,he⟩
    have U:∀W I L Z,(H.set r (.cells (cs.take m) imm true)).get W=some (.cells I L Z)->∃Y,H.get W=some (.cells Y L Z)/\(∀(j:Nat) c,I[j]?=some c->Y[j]?=some c)/\I.length<=Y.length/\(∀x,dr x I Z=dr x Y Z):=fun W I L Z he=>by
     rcases hgs W _ he with⟨rfl,e⟩|⟨_,e⟩
     .simp only[HB.cells.injEq]at e;obtain⟨rfl,rfl,rfl⟩:=e;refine⟨cs,hg,fun j c J=>?_,u0,fun x=>rfl⟩;rw[mY]at J;split at J
      .exact J
      .simp at J
     .exact⟨I,e,fun _ _ h=>h,az _,fun _=>rfl⟩
    refine⟨?_,ti _,uW _ _,rL _ _,fun _ _ h=>.inl h,az _,fun _ _ _ h=>.inl h⟩;exact{
     bD:=h.bD
     b8:=h.b8
     lt:=h.lt
     cells:=fun W b o x I L Z hr V j c J=>by
      obtain⟨Y,M,e2,_⟩:=U W I L Z V;exact h.cells W b o x Y L Z hr M j c (e2 j c J)
     aY:=fun W b o x I L Z hr V j J hjl=>by
      obtain⟨Y,M,_,e3,_⟩:=U W I L Z V;exact h.aY W b o x Y L Z hr M j J ac
     ext:=fun W b o x I L Z hr V=>by
      obtain⟨Y,M,_,e3,e4⟩:=U W I L Z V;have:=h.ext W b o x Y L Z hr M;rw[e4];omega
     bm:=fun W b o x I L Z hr V=>by
      obtain⟨Y,M,_,e3,e4⟩:=U W I L Z V;have:=h.bm W b o x Y L Z hr M;omega
     bb:=fun W b o x I L Z hr V j J hjl=>by
      obtain⟨Y,M,_,_,e4⟩:=U W I L Z V;exact h.bb W b o x Y L Z hr M j J (by rw[<-e4];exact hjl)
     apart:=fun r1 b1 o1 x1 cs1 C tip1 r2 b2 o2 x2 cs2 imm2 tip2 hr1 hc1 hr2 O hne j j' q1 q2 q3 q4=>by
      obtain⟨cs01,M,_,_,e14⟩:=U r1 cs1 C tip1 hc1;obtain⟨cs02,e2,_,_,e24⟩:=U r2 cs2 imm2 tip2 O;exact h.apart r1 b1 o1 x1 cs01 C tip1 r2 b2 o2 x2 cs02 imm2 tip2 hr1 M hr2 e2 hne j j' q1 (by rw[<-e14];exact q2) q3 (by rw[<-e24];exact q4)
     map:=fun W b o x es hr V=>by
      rcases hgs W _ V with⟨_,e⟩|⟨_,e⟩
      .simp at e
      .exact h.map W b o x es hr e
     aS:=fun r1 b1 o1 x1 es r2 b2 o2 x2 hr1 hc1 hr2 O hne=>by
      rcases hgs r1 _ hc1 with⟨_,e⟩|⟨_,e⟩
      .simp at e
      .refine h.aS r1 b1 o1 x1 es r2 b2 o2 x2 hr1 e hr2 ?_ hne;rw[bi]at O;split at O
       .rename_i e2;rw[e2,hg];rfl
       .exact O
     b1:=h.b1
     val:=h.val
     cz:=h.cz}
   .exact ik h
  .exact ik h
 .exact ik h
structure zaq (P:Program) (w:World) (t u ty e:TypeId) (s b:Nat) (xv:Value) (n:Nat) (nv:qt):Prop where
 fit:∀{a:Option Addr}{len cap:Nat},len+n<=cap->(Builtin.append_ #[t,u] ty #[.slice a len cap,xv]).run P w=(match a with
  |some a=>((storeCells (a.add (len*s)) nv).run P w).andThen fun _ w'=>.ok (.slice (some a) (len+n) cap) w'
  |none=>.ok (.slice none (len+n) cap) w)
 new:∀{zv:Value},(∀w,(zeroValue e).run P w=.ok zv w)->∀{a:Option Addr}{len cap:Nat}{ov:qt},cap<len+n->(len+n)*b<=cX->len+n<=cX->(Builtin.firstCells s len (.slice a len cap)).run P w.drew=.ok ov.toArray w.drew ->
  (Builtin.append_ #[t,u] ty #[.slice a len cap,xv]).run P w=.ok (.slice (some ⟨w.heap.size,0,none⟩) (len+n) (grownCap w (len+n) cap e))
    (w.drew.alloc (.cells (ov++nv++(Builtin.zeroCells zv.cells (grownCap w (len+n) cap e-(len+n))).toList).toArray e))
def DC(h:R B H w G){keep:Bool}{ty:TypeId}{z J:ql}{nv:qt}{sv:AV}{svv xv:Value}(hs:br P e=some s)(hb:cw P e=some b)(hz:cj P e=some z)(hzl:z.length=s)
 (hA:zaq P w t u ty e s b xv n nv) (h1:bZ G J nv) (h2:nv.length=n*s) (hn0:n≠0) (hone:J.all AV.one=true) (hsv:VR G sv svv) (W:lh keep (fN keep H s sv) s b sv n J=some (c,H')) :
 ∃v w' G',(Builtin.append_ #[t,u] ty #[svv,xv]).run P w=.ok v w'/\VR G' c v/\Step B H.next G w H' w' G':=by
 have hnl:J.length=n*s:=by rw[h1.1,h2]
 obtain⟨zv,hzr,hzv⟩:=tl hz;have hzs:zv.cells.size=s:=by have:=(hzv G).1;rw[hzl]at this;simpa using this.symm
 have ht:=Lu h keep s sv
 suffices hgoal:∃v w' G',(Builtin.append_ #[t,u] ty #[svv,xv]).run P w=.ok v w'/\VR G' c v/\Step B (fN keep H s sv).next G w H' w' G' by
  obtain⟨v,w',G',g1,g2,g3⟩:=hgoal;exact⟨v,w',G',g1,g2,ht.trans g3⟩
 replace h:=ht.r;clear ht;generalize fN keep H s sv=H at W h⊢;unfold lh at W;split at W
 ·-- onto nil
  split at W
  .rename_i L;simp only[b9]at W;obtain⟨rfl,rfl⟩:=W;cases hsv;have m:=hA.new hzr (a:=none) (len:=0) (cap:=0) (ov:=[]) ac (by simpa using L.1) (by simpa using L.2) (by simp[Builtin.firstCells]);have o:=w1 (h.heap (w':=w.drew) rfl) h1 (Builtin.zeroCells zv.cells (grownCap w (0+n) 0 e-(0+n))).toList e;have hge:=grownCap_ge w (0+n) 0 e;refine⟨_,_,_,m,?_,o.cC⟩;rw[bX]at hge⊢;refine .sl (oq _ _ _) hge ?_;rw[xg,hzs,h2];have:grownCap w n 0 e*s=n*s+(grownCap w n 0 e-n)*s:=z0;simp;omega
  .simp at W
 ·-- onto a row of its own
  rename_i r off len zz;split at W
  .rename_i cs imm hg;split at W
   .rename_i hcond2;obtain⟨hr1,hr2,hend,rfl,himm⟩:=hcond2;cases hsv with
    |sl hr hlc hcx=>
     rename_i I V x0 cap;have hHolds:=h.cells _ _ _ _ _ _ _ hr hg;have hex:=h.ext _ _ _ _ _ _ _ hr hg;simp only[dr]at hex;have hoff:off<=cs.length:=ac;obtain⟨ov,o1,o2,o3⟩:=hHolds.dp (P:=P) (off:=off) (s:=zz) (len:=len) hend (cap:=cap)
     have U:r≠H.next:=fun e=>by have:=h.b8 _ _ hr;omega
     by_cases C:len+n<=cap
     ·-- in its room
      have m:=hA.fit (a:=some ⟨I,V+off,none⟩) C;simp only[]at m;rw[kG,iE,hend]at m;have hcap:(len+n)*zz<=cap*zz:=uV _ C;rw[lF]at hcap;cases keep with
      |false=>
       simp only[cE,cm,b9]at W;obtain⟨rfl,rfl⟩:=W;obtain⟨w',hw,Y⟩:=Ah P hr cs.length J nv cs 0 H w h hg h1 (h1.bI hone) ac ac uS aE;rw[hw]at m;simp only[dC]at m;rw[kE,Dh]at Y;have O:=Di Y.r (r:=r) (cs:=cs++J) (imm:=imm) hr eT (off:=off) co;refine⟨_,w',_,m,?_,(Y.trans O).congr rfl fun k _=>?_⟩
       .refine .sl (oq _ _ _) C ?_;omega
       .rw[aJ,aJ,fD,fD,bi,At hoff];simp only[rN,bJ];by_cases e1:k=H.next
        .simp only[e1,cg]
        .by_cases e2:k=r
         .simp only[e2,cg]
         .simp only[e1,e2,cm]
      |true=>
       simp only[cg,b9]at W;obtain⟨rfl,rfl⟩:=W;have Z:=uZ h hr hg (n:=cs.length) himm (az _) true (fun _=>rfl);obtain⟨w',hw,Y⟩:=Ah P (G:=G.aF w I V cs.length) (r:=r) (imm:=cs.length) (tip:=true) hr cs.length J nv cs 0 _ w Z.r eT (h1.mono Z.ext) (h1.bI hone) ac ac uS aE;rw[hw]at m;simp only[dC]at m;rw[kE,Dh]at Y;have hgr:((H.set r (.cells cs cs.length true)).set r (.cells (cs++J) cs.length true)).get r=some (.cells (cs++J) cs.length true):=eT;have O:=Di Y.r (r:=r) (cs:=cs++J) (imm:=cs.length) hr hgr (off:=off) co;have hmid:=(Z.trans Y).trans O;have hrr:((G.aF w I V cs.length).add H.next (I,V+off,x0-off)).β r=some (I,V,x0):=by
        simp only[Gh.add];rw[ao U];exact hr
       have hnoMap:∀r1 b1 o1 x1 es,((G.aF w I V cs.length).add H.next (I,V+off,x0-off)).β r1=some (b1,o1,x1) ->
        ((((H.set r (.cells cs cs.length true)).set r (.cells (cs++J) cs.length true)).aU r).alloc (.cells ((cs++J).drop off) (cs.length-off) true)).get r1=some (.map es)->b1≠I:=fun r1 b1 o1 x1 es g1 g2=>by
        rw[aJ,fD,bi,bi]at g2;simp only[rN,bJ]at g2;by_cases hne:r1=H.next
        .simp[hne]at g2
        .by_cases hne2:r1=r
         .simp[hne2]at g2
         .simp only[hne,hne2,cm]at g2;have g1':G.β r1=some (b1,o1,x1):=by simp only[Gh.add]at g1;rw[ao hne]at g1;exact g1
          exact h.aS r1 b1 o1 x1 es r I V x0 g1' g2 hr (by rw[hg];rfl) hne2
       have hHolds':gl ((G.aF w I V cs.length).add H.next (I,V+off,x0-off)) w' I V cs:=fun j c hj=>by
        have hjl:j<cs.length:=(dx.1 hj).1;have h5:=Y.r.cells r I V x0 _ _ _ hr hgr j c (by rw[kC hjl];exact hj);obtain⟨v,q1,q2⟩:=h5;exact⟨v,q1,q2.mono O.ext⟩
       have hFF:∀j,j<cs.length->∃v,((G.aF w I V cs.length).add H.next (I,V+off,x0-off)).F I (V+j)=some v:=fun j hj=>
        Z.r.aY r I V x0 cs cs.length true hr eT j hj hj
       have hrev:=KU hmid.r hrr (h.bm _ _ _ _ _ _ _ hr hg) hHolds' hFF hnoMap;refine⟨_,w',_,m,?_,(hmid.trans hrev).congr rfl fun k _=>?_⟩
       .refine .sl (oq _ _ _) C ?_;omega
       .rw[bi,aJ,aJ,fD,bi,bi,bi,At hoff];simp only[rN,bJ];have:cs.length-off=len*zz:=ac;rw[this];by_cases e1:k=r
        .subst e1;simp only[U,cg,cm]
        .simp only[e1,cm]
     ·-- a J row
      have hfit':cap<len+n:=ac;have m:=hA.new hzr (a:=some ⟨I,V+off,none⟩) hfit' hr1 hr2 (o3 w.drew (fun _=>rfl));have hge:=grownCap_ge w (len+n) cap e;have hlen2:(ov++nv).length=(len+n)*zz:=by rw[em,o2,h2,lF]
      have hcapx:grownCap w (len+n) cap e*zz=(ov++nv).length+(Builtin.zeroCells zv.cells (grownCap w (len+n) cap e-(len+n))).toList.length:=by
       rw[xg,hzs,hlen2,<-lF];congr 1;omega
      have o:=(w1 (h.heap (w':=w.drew) rfl) (o1.append h1) (Builtin.zeroCells zv.cells (grownCap w (len+n) cap e-(len+n))).toList e).cC;have hnn:∀(X:HB) (k:Nat),k≠H.next->(H.alloc X).get k=H.get k:=fun X k hk=>by rw[aJ,ao hk]
      have M:∀p,(G.add H.next p).β H.next=some p:=fun p=>oq _ _ _
      have hlenX:(cs.drop off++J).length=(len+n)*zz:=by rw[em,ib,hnl,lF];omega
      cases keep with
      |false=>
       simp only[cE,cm,b9]at W;obtain⟨rfl,rfl⟩:=W;have hk:=o.r.aU r;have hgx:((H.alloc (.cells (cs.drop off++J) 0 true)).aU r).get H.next=some (.cells (cs.drop off++J) 0 true):=by
        rw[fD,ao (Ne.symm U),aJ,aB rfl]
       have Z:=uZ hk (M _) hgx (n:=imm-off) (db _) (by rw[hlenX,lF];omega) true (fun _=>rfl);have hst2:Step B H.next G w _ _ _:=⟨hk,o.ext,o.fr,o.new,o.bS,o.mono,o.dj⟩
       refine⟨_,_,_,m,?_,(hst2.trans Z).congr rfl fun k _=>?_⟩
       .exact .sl (M _) hge ac
       .rw[bi,aJ,fD,fD,aJ];simp only[rN];by_cases e1:k=H.next
        .simp only[e1,cg]
        .simp only[e1,cm]
      |true=>
       simp only[cg,b9]at W;obtain⟨rfl,rfl⟩:=W;have hgx:(H.alloc (.cells (cs.drop off++J) 0 true)).get H.next=some (.cells (cs.drop off++J) 0 true):=jB
       have Z:=uZ o.r (M _) hgx (n:=len*zz) (db _) (by rw[hlenX,lF];omega) true (fun _=>rfl);have hgr:((H.alloc (.cells (cs.drop off++J) 0 true)).set H.next (.cells (cs.drop off++J) (len*zz) true)).get r=some (.cells cs imm true):=by
        rw[bi,ao U,hnn _ _ U];exact hg
       have hice2:=uZ Z.r (r:=r) (by
        show(G.add H.next _).β r=_;simp only[Gh.add];rw[ao U];exact hr) hgr (n:=cs.length) himm (az _) false aE
       refine⟨_,_,_,m,?_,((o.trans Z).trans hice2).congr rfl fun k _=>?_⟩
       .exact .sl (M _) hge ac
       .rw[bi,bi,aJ,aJ,bi];simp only[bJ];by_cases e1:k=H.next
        .have e3:¬H.next=r:=fun e=>U e.symm
         simp only[e1,e3,cg,cm]
        .simp only[e1,cm]
   .simp at W
  .simp at W
 .simp at W
theorem Lw{ty:TypeId}{k k':IntKind}(hd:P.underlying t=some (.slice e))(hu:P.underlying u=some (.int k'))(hs:br P e=some s)(hb:cw P e=some b)
 {L:Value} (C:∀w,(zeroValue e).run P w=.ok L w) (o:L.cells.size=s)  (h1:n*b<=cX) (h2:n<=cX) :
 zaq P w t u ty e s b (.int k (n:Int)) n (Builtin.zeroCells L.cells n).toList:=by
 obtain⟨i,hi,I⟩:∃i,P.info? e=some i/\i.bytes=b:=by simpa [cw,eI]using hb
 have hm:cX=70368744177664:=rfl;rw[hm]at h1 h2;have U:IntKind.i64.wrap (n:Int)=n:=by
  unfold IntKind.wrap;simp[IntKind.signed,IntKind.bits];omega
 have M:¬((n:Int)<0):=ac;have Y:¬(281474976710656<(n:Int)*(b:Int)):=by
  have:(n:Int)*(b:Int)=((n*b:Nat):Int):=by push_cast;rfl
  omega
 have J:n*s=0->(Builtin.zeroCells L.cells n).toList=[]:=fun e=>List.eq_nil_of_length_eq_zero (by rw[xg,o,e]);have V:∀w,(asInt (.int k (n:Int))).run P w=.ok (n:Int) w:=fun w=>by simp[asInt,asIntOf]
 refine⟨fun{a W O} z=>?_,fun{zv'} hz' {a W O ov} z Z m ho=>?_⟩
 .simp only[Builtin.append_];simp[cO hd,cO hu,iH hs,pz hi,I,V,U,M,Y,C];rw[aB z];by_cases e:n*s=0
  .rw[aB e,J e];cases a<;>simp
  .rw[ao e];cases a<;>simp
 .obtain rfl:zv'=L:=by
   have:=(hz' w).symm.trans (C w);simpa using this
  rw[hm]at Z m;have h48:¬(281474976710656<Builtin.nextslicecap (W+n) O*b):=by
   have:=growslice_fits z (bytes:=b) ac;omega
  have h63:¬(9223372036854775807<((W:Int)+(n:Int))):=ac;have h1':¬(W+n<=O):=ac;simp only[Builtin.append_];simp[cO hd,cO hu,iH hs,pz hi,I,V,U,M,Y,h1',h63,h48,Question.forced,ho,C,newRow,grownCap];by_cases e0:n*s=0
  .rw[aB e0,J e0]
   congr 3
   apply jX;simp
  .rw[ao e0]
   congr 3
   apply jX;simp
theorem DD{z:ql}(h:z.all AV.one=true):∀n,(jf z n).all AV.one=true
 |0=>rfl
 |n+1=>by rw[jf,u5,h,DD h n];rfl
def Ly(h:R B H w G){keep:Bool}{ty:TypeId}{sv:AV}{xv:Value}(Y:VR G sv Z)(hx:VR G x xv)(J:cY P keep H t u sv x=some (c,H')):
 ∃v w' G',(Builtin.append_ #[t,u] ty #[Z,xv]).run P w=.ok v w'/\VR G' c v/\Step B H.next G w H' w' G':=by
 unfold cY at J;split at J
 .rename_i e hd;split at J
  .rename_i s b z hs hb hz;split at J
   .rename_i KC L U;obtain⟨du,hu,M⟩:=DB L;obtain⟨nv,h1,h2,h3,h4⟩:=Au (P:=P) h hx U;have hnv:nv=[]:=by rw[xe]at h2;exact Dz.1 h2
    subst hnv;have W:∀a len cap,Z=.slice a len cap->len<=cap->(Builtin.append_ #[t,u] ty #[Z,xv]).run P w=.ok Z w:=fun a len cap e V=>by
     subst e;rw[DA hd hu M hs (n:=0) ac (h3 w) (h4 w (fun _=>rfl))];cases a<;>simp[storeCells]
    split at J
    .simp only[b9]at J;obtain⟨rfl,rfl⟩:=J;refine⟨Z,w,G,?_,Y,ik h⟩;cases Y with
     |sl hr hl hc=>exact W _ _ _ rfl hl
    .simp only[b9]at J;obtain⟨rfl,rfl⟩:=J;refine⟨Z,w,G,?_,Y,ik h⟩;cases Y with
     |aq vs hz hF hv hc=>exact W _ _ _ rfl hc
     |lst0 a cap=>exact W _ _ _ rfl (db _)
    .simp only[b9]at J;obtain⟨rfl,rfl⟩:=J;refine⟨Z,w,G,?_,Y,ik h⟩;cases Y with
     |aa=>exact W _ _ _ rfl (az _)
    .simp at J
   .rename_i n new hnz L U;obtain⟨du,hu,M⟩:=DB L;obtain⟨nv,h1,h2,h3,h4⟩:=Au (P:=P) h hx U;have hn0:n≠0:=fun e=>by subst e;exact hnz rfl
    split at J
    .rename_i C;exact DC h hs hb hz C.2 ⟨fun V=>DA hd hu M hs V (h3 w) (h4 w (fun _=>rfl)),fun{zv} O {a len cap ov} V hr1 hr2 ho=>Lt hd hu M hs hb O V hr1 hr2 (h3 w) (h4 w.drew (fun _=>rfl)) ho⟩ h1 h2 hn0 C.1 Y J
    .simp at J
   .unfold Da at J;split at J
    .rename_i k' k m hu _ _;split at J
     .rename_i C;obtain⟨hc1,hc2,I,hc4⟩:=C;obtain⟨zv,O,hzv⟩:=tl hz;have o:zv.cells.size=s:=by have:=(hzv G).1;rw[I]at this;simpa using this.symm
      cases hx;have hA:=Lw (P:=P) (w:=w) (t:=t) (ty:=ty) (k:=k) hd hu hs hb O o hc1 hc2;have hzn:∀n,bZ G (jf z n) (Builtin.zeroCells zv.cells n).toList:=fun n=>by
       have:=Ao (hzv G) n;unfold Builtin.zeroCells;have e:z.length=zv.cells.size:=by rw[I,o]
       rw[e]at this;exact this
      split at J
      .have hz0:(Builtin.zeroCells zv.cells 0).toList=[]:=by simp[Builtin.zeroCells]
       have W:∀a len cap,Z=.slice a len cap->len<=cap->(Builtin.append_ #[t,u] ty #[Z,.int k (Int.ofNat 0)]).run P w=.ok Z w:=fun a len cap e V=>by
        subst e;have:=hA.fit (a:=a) (len:=len) (cap:=cap) ac;rw[hz0]at this;refine Eq.trans this ?_;cases a<;>simp[storeCells]
       split at J
       .simp only[b9]at J;obtain⟨rfl,rfl⟩:=J;refine⟨Z,w,G,?_,Y,ik h⟩;cases Y with
        |sl hr hl hc=>exact W _ _ _ rfl hl
       .simp only[b9]at J;obtain⟨rfl,rfl⟩:=J;refine⟨Z,w,G,?_,Y,ik h⟩;cases Y with
        |aq vs hz hF hv hc=>exact W _ _ _ rfl hc
        |lst0 a cap=>exact W _ _ _ rfl (db _)
       .simp only[b9]at J;obtain⟨rfl,rfl⟩:=J;refine⟨Z,w,G,?_,Y,ik h⟩;cases Y with
        |aa=>exact W _ _ _ rfl (az _)
       .simp at J
      .rename_i m;exact DC h hs hb hz I hA (hzn _) (by rw[xg,o]) ac (DD hc4 _) Y J
     .simp at J
    .simp at J
  .simp at J
 .simp at J
end
section
variable {P:Program} {B:Bs} {G:Gh} {H H':Hp} {w:World}
def Lz(z:ByteArray):z.data.toList.length=z.size:=by show z.data.toList.length=z.data.size;simp
def DE(h:R B H w G){mv:Value}{es:qJ}(Z:VR G m mv)(z:rz H m=some es):
 (mv=.map none/\es=[])\/∃r b o x ms J,m=.map r/\mv=.map (some b)/\G.β r=some (b,o,x)/\H.get r=some (.map es)/\w.heap[b]?=some (.map ms J)/\oh G es ms.toList:=by
 unfold rz at z;split at z
 .simp only[aC]at z;subst z;cases Z;exact .inl ⟨rfl,rfl⟩
 .rename_i r;split at z
  .rename_i Y L;simp only[aC]at z;subst z;cases Z with
   |map hr=>
    rename_i b o x;obtain⟨ms,J,W,V⟩:=h.map r b o x _ hr L;exact .inr ⟨r,b,o,x,ms,J,rfl,rfl,hr,L,W,V⟩
  .simp at z
 .simp at z
def u7{ms:Array MapEntry}(h:w.heap[b]?=some (.map ms J)):(getObj b).run P w=.ok (.map ms J) w:=by
 simp[getObj,Sem.run,h]
def LA(h:R B H w G){ty:TypeId}(O:VR G x Z)(W:gh P H t x=some c):∃v,(Builtin.len_ #[t] ty #[Z]).run P w=.ok v w/\VR G c v:=by
 unfold gh at W;split at W
 .rename_i hd;split at W
  .simp only[aC]at W;subst W;cases O with
   |ag I _ U=>
    subst U;refine⟨_,?_,.int _ _⟩;rw[Lz];simp[Builtin.len_,cO hd,goInt]
  .simp at W
 .rename_i e hd;split at W
  .simp only[aC]at W;subst W;cases O;exact⟨_,u3,.int _ _⟩
  .simp only[aC]at W;subst W;cases O
   .exact⟨_,u3,.int _ _⟩
   .exact⟨_,u3,.int _ _⟩
  .simp only[aC]at W;subst W;cases O;exact⟨_,u3,.int _ _⟩
  .simp at W
 .rename_i n e hd;simp only[aC]at W;subst W;refine⟨.int .i64 n,?_,.int _ _⟩;simp only[Builtin.len_];simp[cO hd,goInt]
 .rename_i C e hd;split at W
  .rename_i z Y;simp only[aC]at W;subst W;rcases DE h O Y with⟨rfl,rfl⟩|⟨r,b,o,M,ms,J,rfl,rfl,hr,L,V,m⟩
   .exact⟨_,u3,.int _ _⟩
   .refine⟨.int .i64 z.length,?_,.int _ _⟩;have:ms.size=z.length:=by have:=m.1;simpa using this.symm
    simp[Builtin.len_,cO hd,u7 V,goInt,this]
  .simp at W
 .simp at W
def LB{I:Bool}(O:VR G x W)(Y:VR G y Z)(h:mm I x y=some c):∃v,((if I then Builtin.max2 else Builtin.min2) W Z).run P w=.ok v w/\VR G c v:=by
 unfold mm at h;split at h
 .simp only[aC]at h;subst h;cases O;cases Y;cases I
  .refine⟨_,rfl,?_⟩;simp only[cE,cm,ji];exact .int _ _
  .refine⟨_,rfl,?_⟩;simp only[cg,ji];exact .int _ _
 .simp at h
theorem Av{I:Bool}:∀{Y:ql}{V:qt}{x c:AV}{W:Value},VR G x W->bZ G Y V->pi I x Y=some c ->
 ∃v,(V.foldlM (if I then Builtin.max2 else Builtin.min2) W).run P w=.ok v w/\VR G c v
 |[],V,x,c,W,hx,hxs,h=>by
  simp only[pi,aC]at h;subst h;have:V=[]:=by have:=hxs.1;simpa using this.symm
  subst this;exact⟨W,rfl,hx⟩
 |y::ys,[],_,_,_,_,hxs,_=>by have:=hxs.1;simp at this
 |y::ys,yv::yvs,x,c,W,hx,hxs,h=>by
  obtain⟨o,m⟩:=hxs.a0;simp only[pi]at h;split at h
  .rename_i z Z;obtain⟨J,U,M⟩:=LB (P:=P) (w:=w) hx o Z;obtain⟨v,O,L⟩:=Av M m h;exact⟨v,by rw[List.foldlM_cons,dy,U];exact O,L⟩
  .simp at h
def Aw(h:jS P t=some d):P.underlying t=some d/\((∃k,d=.int k)\/d=.string\/d=.bool):=by
 unfold jS at h;split at h<;>simp only[aC,reduceCtorEq]at h<;>subst h
 .rename_i k hd;exact⟨hd,.inl ⟨k,rfl⟩⟩
 .rename_i hd;exact⟨hd,.inr (.inl rfl)⟩
 .rename_i hd;exact⟨hd,.inr (.inr rfl)⟩
def Ax{r:Bool}(O:VR G x Z)(W:VR G y I)(h:li d x y=some r):Instr.sameNow d Z I=some r:=by
 unfold li at h;split at h
 .split at h
  .cases O;cases W;exact h
  .simp at h
 .split at h
  .cases O with
   |ag a _ J=>cases W with
    |ag b _ C=>
     subst J C;simp only[aC]at h;subst h;simp only[Instr.sameNow,aC];show(a.data == b.data)=(a.data.toList == b.data.toList);rw[Ac];simp only[lE,Array.toList_inj]
  .simp at h
 .split at h
  .cases O;cases W;exact h
  .simp at h
 .simp at h
theorem Ay{d:TypeDesc}{k:AV}{kv:Value}(Z:VR G k kv):∀{z:qJ}{ms:List MapEntry}{i:Nat},oh G z ms ->
 (dG d k z i=some none->Instr.findNow d kv ms i=some none) /\
 (∀j v,dG d k z i=some (some (j,v))->∃k' m,z[j-i]?=some (k',v)/\ms[j-i]?=some m/\i<=j/\li d k k'=some true/\Instr.findNow d kv ms i=some (some (j,m.val)))
 |[],ms,i,he=>by
  have:ms=[]:=by have:=he.1;simpa using this.symm
  subst this;exact⟨fun _=>rfl,fun j v h=>by simp[dG]at h⟩
 |e::z,[],i,he=>by have:=he.1;simp at this
 |(k',v')::z,m::ms,i,he=>by
  obtain⟨Y,h2⟩:=he.2 0 (k',v') m rfl rfl;have W:oh G z ms:=⟨by simpa using he.1,fun j a b J C=>he.2 (j+1) a b tn (by simpa using C)⟩;obtain⟨V,U⟩:=Ay (d:=d) Z (i:=i+1) W;constructor
  .intro h;simp only[dG]at h;split at h
   .simp at h
   .rename_i o;have:=Ax Z Y o;simp only[Instr.findNow,this];exact V h
   .simp at h
  .intro j v h;simp only[dG]at h;split at h
   .rename_i o;simp only[b9]at h;obtain⟨rfl,rfl⟩:=h;have:=Ax Z Y o;exact⟨k',m,aE,aE,az _,o,by simp only[Instr.findNow,this]⟩
   .rename_i o;have:=Ax Z Y o;obtain⟨O,L,I,g2,g3,g4,g5⟩:=U j v h;have M:j-i=(j-(i+1))+1:=ac;refine⟨O,L,by rw[M];simpa using I,by rw[M];simpa using g2,ac,g4,?_⟩;simp only[Instr.findNow,this];exact g5
   .simp at h
theorem LC(n:Nat)(hd:jS P C=some d)(e:Bool)(kv:Value):(Instr.checkKey e (n+1) C kv).run P w=.ok () w:=by
 obtain⟨o,m⟩:=Aw hd;simp only[Instr.checkKey,dy,cO o,dC];rcases m with⟨k,rfl⟩|rfl|rfl<;>rfl
def u9(hd:jS P C=some d)(e:Bool)(kv:Value):(Instr.checkKey e 10000 C kv).run P w=.ok () w:=LC 9999 hd e kv
def va(hd:P.underlying C=some d){kv:Value}{ms:List MapEntry}{r:Option (Nat×Value)}(h:Instr.findNow d kv ms 0=some r):(Instr.findKey C kv ms).run P w=.ok r w:=by
 simp[Instr.findKey,cO hd,h]
def LD(hd:P.underlying t=some (.map C e))(z:jS P C=some d){mv kv:Value}{ok:Bool}{ms:Array MapEntry}
 (m:(mv=.map none/\ms=#[])\/∃b J,mv=.map (some b)/\w.heap[b]?=some (.map ms J)) :
 (∀j v,Instr.findNow d kv ms.toList 0=some (some (j,v))->(Instr.lookup t mv kv ok).run P w=.ok (if ok then .tuple #[v,.bool true]else v) w) /\
 (∀L,(zeroValue e).run P w=.ok L w->Instr.findNow d kv ms.toList 0=some none->(Instr.lookup t mv kv ok).run P w=.ok (if ok then .tuple #[L,.bool false]else L) w):=by
 have W:=(Aw z).1;rcases m with⟨rfl,rfl⟩|⟨b,J,rfl,V⟩
 .refine⟨fun j v Z=>by simp[Instr.findNow]at Z,fun L Y Z=>?_⟩;have o:=va (P:=P) (w:=w) W Z;simp only[Instr.lookup,dy,cO hd,dC,iF,u9 z,o,Y]
 .refine⟨fun j v Z=>?_,fun L Y Z=>?_⟩
  .have o:=va (P:=P) (w:=w) W Z;simp only[Instr.lookup,dy,cO hd,dC,u7 V,iF,u9 z,o]
  .have o:=va (P:=P) (w:=w) W Z;simp only[Instr.lookup,dy,cO hd,dC,u7 V,iF,u9 z,o,Y]
def LF(h:R B H w G){mv kv:Value}{ok:Bool}(L:VR G m mv)(z:VR G k kv)(W:gG P H t m k ok=some c):
 ∃v,(Instr.lookup t mv kv ok).run P w=.ok v w/\VR G c v:=by
 unfold gG at W;split at W
 .rename_i kt e hd;split at W
  .rename_i es C V Z;obtain⟨ms,O,I⟩:∃ms:Array MapEntry,((mv=.map none/\ms=#[])\/∃b J,mv=.map (some b)/\w.heap[b]?=some (.map ms J))/\oh G es ms.toList:=by
    rcases DE h L V with⟨rfl,rfl⟩|⟨r,b,o,xx,ms,J,rfl,rfl,hr,hg,hw,he⟩
    .exact⟨#[],.inl ⟨rfl,rfl⟩,rfl,aE⟩
    .exact⟨ms,.inr ⟨b,J,rfl,hw⟩,he⟩
   obtain⟨f1,f2⟩:=Ay (d:=C) z (i:=0) I;obtain⟨r1,r2⟩:=LD (kv:=kv) (ok:=ok) hd Z O;split at W
   .rename_i j v U;simp only[aC]at W;subst W;obtain⟨k',m',g1,g2,_,_,g5⟩:=f2 j v U;have Y:=(I.2 _ _ _ g1 g2).2;refine⟨_,r1 _ _ g5,?_⟩;cases ok
    .exact Y
    .exact .aO (vs:=[m'.val,.bool true]) rfl (lG Y (lG (.bool true) (m0 _))).2
   .rename_i U;split at W
    .rename_i v Y;simp only[aC]at W;subst W;obtain⟨zv,z1,M⟩:=KV Y;refine⟨_,r2 _ (z1 w) (f1 U),?_⟩;cases ok
     .exact M G
     .exact .aO (vs:=[zv,.bool false]) rfl (lG (M G) (lG (.bool false) (m0 _))).2
    .simp at W
   .simp at W
  .simp at W
 .simp at W
end
section
variable {P:Program} {B:Bs} {G:Gh} {H H':Hp} {w:World}
def DF(h:R B H w G){r o x:Nat}{es U:qJ}{ms':Array MapEntry}{clock':Nat}(hr:G.β r=some (b,o,x))(hg:H.get r=some (.map es))(he:oh G U ms'.toList):
 Step B H.next G w (H.set r (.map U)) {w with heap:=w.heap.setIfInBounds b (.map ms' clock') } G:=by
 obtain⟨ms,clock,hw,_⟩:=h.map r b o x es hr hg;have hb:b<w.heap.size:=(h.lt r b o x hr).2
 let w':World:={w with heap:=w.heap.setIfInBounds b (.map ms' clock') }
 have z:∀k,k≠b->w'.heap[k]?=w.heap[k]?:=fun k Y=>by
  show(w.heap.setIfInBounds b _)[k]?=_;rw[rI,ao (Ne.symm Y)]
 have hheapb:w'.heap[b]?=some (.map ms' clock'):=by
  show(w.heap.setIfInBounds b _)[b]?=_;simp[hb]
 have L:∀b' J v,w.cell? ⟨b',J,none⟩=some v->b'≠b:=fun b' J v hc e=>by
  subst e;unfold World.cell? at hc;rw[hw]at hc;simp at hc
 have O:∀b' J v,w.cell? ⟨b',J,none⟩=some v->w'.cell? ⟨b',J,none⟩=some v:=fun b' J v hc=>by
  rw[World.cell?_of_block (w:=w) (z b' (L b' J v hc))];exact hc
 have I:∀k,k≠r->(H.set r (.map U)).get k=H.get k:=fun k Y=>by rw[bi,ao Y]
 have W:(H.set r (.map U)).get r=some (.map U):=eT;refine⟨?_,ti _,⟨rfl,rfl,rfl,aE,fun k Y hn=>z k (fun e=>hn r b o x hr e.symm)⟩,rL _ _,fun _ _ h=>.inl h,az _,fun _ _ _ h=>.inl h⟩;exact{
  bD:=by have:=h.bD;simpa using this
  b8:=h.b8
  lt:=fun r b o x hr=>by have:=h.lt r b o x hr;simpa using this
  cells:=fun k b' J V cs imm Z Y hc=>by
   by_cases e:k=r
   .subst e;rw[W]at hc;simp at hc
   .rw[I k e]at hc;intro j c hj;obtain⟨v,h1,h2⟩:=h.cells k b' J V cs imm Z Y hc j c hj;exact⟨v,O _ _ _ h1,h2⟩
  aY:=fun k b' J V cs imm Z Y hc=>by
   by_cases e:k=r
   .subst e;rw[W]at hc;simp at hc
   .rw[I k e]at hc;exact h.aY k b' J V cs imm Z Y hc
  ext:=fun k b' J V cs imm Z Y hc=>by
   by_cases e:k=r
   .subst e;rw[W]at hc;simp at hc
   .rw[I k e]at hc;exact h.ext k b' J V cs imm Z Y hc
  bm:=fun k b' J V cs imm Z Y hc=>by
   by_cases e:k=r
   .subst e;rw[W]at hc;simp at hc
   .rw[I k e]at hc;exact h.bm k b' J V cs imm Z Y hc
  bb:=fun k b' J V cs imm Z Y hc j hj hjl=>by
   by_cases e:k=r
   .subst e;rw[W]at hc;simp at hc
   .rw[I k e]at hc;obtain⟨⟨v,h1⟩,h2,h3⟩:=h.bb k b' J V cs imm Z Y hc j hj hjl;refine⟨⟨v,O _ _ _ h1⟩,?_,h3⟩;rw[World.frozen?_of_block (w:=w) (z b' (L _ _ _ h1))];exact h2
  apart:=fun k1 b1 o1 x1 cs1 imm1 tip1 C b2 o2 x2 cs2 imm2 tip2 m M hk2 hc2=>by
   by_cases e1:k1=r
   .subst e1;rw[W]at M;simp at M
   .by_cases e2:C=r
    .subst e2;rw[W]at hc2;simp at hc2
    .rw[I k1 e1]at M;rw[I C e2]at hc2;exact h.apart k1 b1 o1 x1 cs1 imm1 tip1 C b2 o2 x2 cs2 imm2 tip2 m M hk2 hc2
  map:=fun k b' J V es1 Y hc=>by
   by_cases e:k=r
   .subst e;have hk':=Y;rw[hr]at hk';simp only[b9]at hk';obtain⟨rfl,rfl,rfl⟩:=hk';rw[W]at hc;simp only[aC,HB.map.injEq]at hc;subst hc;exact⟨ms',clock',hheapb,he⟩
   .rw[I k e]at hc;obtain⟨ms1,clock1,h1,h2⟩:=h.map k b' J V es1 Y hc;refine⟨ms1,clock1,?_,h2⟩;rw[z b' (fun eb=>h.aS k b' J V es1 r b o x Y hc hr (by rw[hg];rfl) e eb)];exact h1
  aS:=fun k1 b1 o1 x1 es1 C b2 o2 x2 m M hk2 hs hne=>by
   have hs':(H.get C).isSome:=by
    by_cases e2:C=r
    .subst e2;rw[hg];rfl
    .rw[I C e2]at hs;exact hs
   by_cases e1:k1=r
   .subst e1;exact h.aS k1 b1 o1 x1 es C b2 o2 x2 m hg hk2 hs' hne
   .rw[I k1 e1]at M;exact h.aS k1 b1 o1 x1 es1 C b2 o2 x2 m M hk2 hs' hne
  b1:=fun b' J v hf=>O _ _ _ (h.b1 b' J v hf)
  val:=h.val
  cz:=h.cz}
def DG{ms ms':Array MapEntry}{clock':Nat}(h:w.heap[b]?=some (.map ms J)):
 (setObj b (.map ms' clock')).run P w=.ok () {w with heap:=w.heap.setIfInBounds b (.map ms' clock') }:=by
 simp[setObj,Sem.run,h]
def LG(n:Nat)(O:VR G x Z)(W:VR G y I)(h:li d x y=some true):Instr.sameBits n I Z=true:=by
 unfold li at h;split at h
 .split at h
  .split at h
   .rename_i e;subst e;cases O;cases W;simp only[aC,lE]at h;subst h;cases n<;>simp[Instr.sameBits]
   .simp at h
  .simp at h
 .split at h
  .cases O with
   |ag a _ J=>cases W with
    |ag b _ Y=>
     subst J Y;simp only[aC,lE]at h;have C:(b == a)=true:=by
      show(b.data == a.data)=true;simp only[lE];exact(jX h).symm
     cases n<;>simp[Instr.sameBits,C]
  .simp at h
 .split at h
  .cases O;cases W;simp only[aC,lE]at h;subst h;cases n<;>simp[Instr.sameBits]
  .simp at h
 .simp at h
theorem LH{old J:Value}(h:Instr.sameBits 10000 old J=true):(Instr.keyThatStays old J).run P w=.ok J w:=by
 unfold Instr.keyThatStays;rw[aB h];rfl
def LJ(h:R B H w G){mv kv vv:Value}(hm:VR G m mv)(L:VR G k kv)(hv:VR G v vv)(W:kz P H t m k v=some H'):
 ∃w',(Instr.mapUpdate t mv kv vv).run P w=.ok () w'/\Step B H.next G w H' w' G:=by
 unfold kz at W;split at W
 .rename_i kt e hd;split at W
  .rename_i r C Z;split at W
   .rename_i es hg;cases hm with
    |map hr=>
     rename_i b o x;obtain⟨ms,Y,hw,I⟩:=h.map r b o x es hr hg;obtain⟨f1,f2⟩:=Ay (d:=C) L (i:=0) I;have O:=(Aw Z).1;split at W
     .rename_i j v0 hf;simp only[aC]at W;subst W;obtain⟨k',m',g1,g2,_,g4,g5⟩:=f2 j v0 hf;simp only[Nat.sub_zero]at g1 g2;have hjl:j<ms.size:=by have:=(dx.1 g2).1;simpa using this
      have M:ms[j]?=some m':=by simpa using g2
      have V:=LG 10000 L (I.2 j _ _ g1 g2).1 g4;have U:=va (P:=P) (w:=w) O g5;refine⟨_,?_,DF h hr hg (ms':=ms.modify j fun e=>{e with key:=kv,val:=vv}) (clock':=Y) ?_⟩
      .simp only[Instr.mapUpdate,dy,cO hd,dC,u7 hw,u9 Z,U,M,iG,bK,LH V,DG hw]
      .refine⟨by have:=I.1;simpa using this,fun i a c J hc=>?_⟩;rw[mA]at J;rw[u6,Array.getElem?_modify]at hc;by_cases e:j=i
       .subst e;rw[aB rfl]at hc;rw[aB rfl]at J;split at J
        .simp only[aC]at J;subst J;rw[M]at hc;simp only[iG,aC]at hc;subst hc;exact⟨L,hv⟩
        .simp at J
       .rw[ao e]at J hc;exact I.2 i a c J wX
     .rename_i hf;simp only[aC]at W;subst W;have U:=va (P:=P) (w:=w) O (f1 hf);refine⟨_,?_,DF h hr hg (ms':=ms.push {key:=kv,val:=vv,born:=Y}) (clock':=Y+1) ?_⟩
      .simp only[Instr.mapUpdate,dy,cO hd,dC,u7 hw,u9 Z,U,DG hw]
      .refine⟨by have:=I.1;simpa using this,fun i a c J hc=>?_⟩;rw[Array.toList_push]at hc;have hl:=I.1;by_cases hi:i<es.length
       .rw[kC hi]at J;rw[kC ac]at hc;exact I.2 i a c J hc
       .rw[lC ac]at J;rw[lC ac]at hc;rw[<-hl]at hc;cases z:i-es.length with
        |zero=>
         rw[z]at J hc;simp at J hc;subst J hc;exact⟨L,hv⟩
        |succ n=>rw[z]at J;simp at J
     .simp at W
   .simp at W
  .simp at W
 .simp at W
theorem DH:∀{cs:ql}{bs:qn}{vs:qt},rB cs=some bs->bZ G cs vs->∃C:qp,vs=C.map (Value.int .u8)/\bs=C.map fun n=>UInt8.ofNat n.toNat
 |[],bs,vs,h,hv=>by
  simp only[rB,aC]at h;subst h;have:vs=[]:=by have:=hv.1;simpa using this.symm
  subst this;exact⟨[],rfl,rfl⟩
 |c::cs,bs,[],h,hv=>by have:=hv.1;simp at this
 |c::cs,bs,v::vs,h,hv=>by
  obtain⟨o,m⟩:=hv.a0;unfold rB at h;split at h
  .rename_i e;simp at e
  .rename_i n I e;simp only[eU]at e;obtain⟨rfl,rfl⟩:=e;split at h
   .rename_i J Z;simp only[aC]at h;subst h;obtain⟨C,rfl,rfl⟩:=DH Z m;cases o;exact⟨n::C,rfl,rfl⟩
   .simp at h
  .simp at h
def LK(C:qp):∀s:ByteArray,(C.foldl (fun r n=>r.push (UInt8.ofNat n.toNat)) s).data.toList=s.data.toList++C.map fun n=>UInt8.ofNat n.toNat:=by
 induction C with
 |nil=>intro s;simp
 |cons n C ih=>intro s;rw[List.foldl_cons,ih];simp[ByteArray.push]
def LL(h:R B H w G){V:TypeId}{xv:Value}(O:VR G x xv)(L:fB P H C V x=some c):∃v,(convert C V xv).run P w=.ok v w/\VR G c v:=by
 unfold fB at L;split at L
 .rename_i e U hd;split at L
  .rename_i z;split at L
   .rename_i n cs J;split at L
    .rename_i bs m;obtain⟨nv,h1,h2,h3,h4⟩:=Au (P:=P) h O J;obtain⟨W,Y,rfl⟩:=DH m h1;split at L
     .simp only[aC]at L;subst L;cases O with
      |sl hr hl hcx=>
       rename_i b o xx cap;have Z:=h3 w;simp[Builtin.lenOf]at Z;subst Z;have M:=h4 w (fun _=>rfl);simp only[Builtin.firstCells,m1]at M;rw[Y]at M;refine⟨_,by rw[run_convert_bytes_string w C V e _ _ _ U z hd,run_bytesToString w _ _ _ W M],.ag _ _ ?_⟩;rw[LK];rfl
     .simp only[aC]at L;subst L;cases O;have Z:=h3 w;simp[Builtin.lenOf]at Z;have:W=[]:=by
       have e1:(W.map (Value.int .u8)).length=0:=by rw[<-Y,h2,<-Z]
       simpa using e1
      subst this;refine⟨.string .empty,?_,.ag _ _ rfl⟩;rw[run_convert_bytes_string w C V e _ _ _ U z hd];rfl
     .simp at L
    .simp at L
   .simp at L
  .simp at L
 .rename_i ds k hn U hd;split at L
  .simp only[aC]at L;subst L;cases O;refine⟨_,?_,.int _ _⟩;simp[convert,cO U,cO hd,Conv.intToInt]
  .simp only[aC]at L;subst L;cases O;rename_i dL e0;refine⟨_,?_,.sx _ _⟩;simp[convert,cO U,cO hd,Conv.intToInt,Sx.eval]
  .simp at L
 .rename_i hn U hd;split at L
  .simp only[aC]at L;subst L;have I:=O;cases O with
   |ag sv _ z=>
    refine⟨.string sv,?_,I⟩;simp[convert,cO U,cO hd]
  .simp at L
 .simp at L
end
section
variable {P:Program} {B:Bs} {G:Gh} {H H':Hp} {w:World}
def rQ(G:Gh)(E:ax)(a:Act)(xs:Array Operand):Prop:=∀x∈xs,∀c,aH E x=some c->VR G c (a.eval x)
theorem xh{E:ax}{a:Act}:∀{Y:List Operand}{cs:ql},(∀x∈Y,∀c,aH E x=some c->VR G c (a.eval x))->fA E Y=some cs->bZ G cs (Y.map a.eval)
 |[],cs,_,h=>by
  simp only[fA,aC]at h;subst h;exact m0 G
 |x::Y,cs,hk,h=>by
  simp only[fA]at h;split at h
  .rename_i v vs Z m;simp only[aC]at h;subst h;exact lG (hk x aE v Z) (xh (fun y W=>hk y (by simp[W])) m)
  .simp at h
def jj{s:Sem Value}(h:R B H w G)(U:∃v,s.run P w=.ok v w/\VR G c v):rO P B H G w (do pure (.value (<-s))) c H:=by
 obtain⟨v,o,m⟩:=U;exact⟨.value v,w,G,v,by simp[o],.inl rfl,m,ik h⟩
def tq{s:Sem Value}(U:∃v L O,s.run P w=.ok v L/\VR O c v/\Step B H.next G w H' L O):rO P B H G w (do pure (.value (<-s))) c H':=by
 obtain⟨v,L,O,o,m,I⟩:=U;exact⟨.value v,L,O,v,by simp[o],.inl rfl,m,I⟩
def DI{s:Sem Unit}(U:∃L,s.run P w=.ok () L/\Step B H.next G w H' L G):rO P B H G w (do s;pure .skip) cT H':=by
 obtain⟨L,o,m⟩:=U;exact⟨.skip,L,G,undef,by simp[o],.inr ⟨rfl,rfl⟩,uX G,m⟩
def DJ{x:Option Operand}{c:qr}(z:∀y∈x.toArray,∀c,aH E y=some c->VR G c (a.eval y))(h:iA E x=some c):rP G c (x.map a.eval):=by
 unfold iA at h;split at h
 .simp only[aC]at h;subst h;exact trivial
 .rename_i y;split at h
  .rename_i v Y;simp only[aC]at h;subst h;exact z y aE v Y
  .simp at h
def LM(Y:pn o=true)(I:rQ G E a o.op.operands)(V:cA P D E H o.op=some (c,H')):mz P G w (execOp a.eval o) Next.value c H H':=by
 obtain⟨C,m,ty,pos,L,guard⟩:=o;simp only[]at V I;cases m<;>simp only[pn,eB,cE]at Y
 case alloc t=>
  simp only[cA]at V;unfold uF at V;split at V
  .rename_i z W;simp only[b9]at V;obtain⟨rfl,rfl⟩:=V;obtain⟨Z,z1,z2⟩:=tl W;refine mz.next ⟨.cells z 0 true,.cells (Z.cells.toList++[]).toArray t,Z.cells.toList.length+0,.pointer (some ⟨w.heap.size,0,none⟩),rfl,?_,.cells z Z.cells.toList [] t (z2 G),fun O hG=>.ptr (off:=0) hG⟩
   simp[Instr.alloc,z1,newVar,newRow]
  .simp at V
 case box t x=>
  simp only[cA]at V;unfold uG at V;split at V
  .rename_i v U;simp only[b9]at V;obtain⟨rfl,rfl⟩:=V;have hx:=(I x dD _ U).cells;refine mz.next ⟨.cells v.cells 0 true,.cells ((a.eval x).cells.toList++[]).toArray t,(a.eval x).cells.toList.length+0,.pointer (some ⟨w.heap.size,0,none⟩),rfl,?_,.cells v.cells _ [] t hx,fun O hG=>.ptr (off:=0) hG⟩
   simp[Instr.box,newVar,newRow]
  .simp at V
 case buildSlice t len parts=>
  simp only[cA]at V;unfold uH at V;split at V
  .rename_i ps J;obtain⟨q1,q2⟩:=w9 (G:=G) (a:=a) (fun p hp=>I p.2 Ap) J;have:=Dx (P:=P) (w:=w) q1 q2 V;have he:(parts.toList.map fun x=>(x.1,a.eval x.2)).toArray=parts.map fun(i,x)=>(i,a.eval x):=by
    apply jX;simp
   rw[he]at this;exact this.next
  .simp at V
 case makeMap t r=>
  simp only[cA]at V;unfold uK at V;split at V
  .simp only[b9]at V;obtain⟨rfl,rfl⟩:=V;refine mz.next ⟨.map [],.map #[] 0,0,.map (some w.heap.size),rfl,?_,.map,fun O hG=>.map hG⟩
   simp[Instr.makeMap]
  .simp at V
 case makeSlice t l c'=>
  simp only[cA]at V;unfold uL at V;split at V
  .rename_i lv cv M hc;exact(Dy (I l dD _ M) (I c' dD _ hc) V).next
  .simp at V
 case call cl=>
  simp only[cA,reduceCtorEq]at V
def LN(h:R B H w G)(I:rQ G E a o.op.operands)(V:cA P B.bN.b9 E H o.op=some (c,H')):rO P B H G w (execOp a.eval o) c H':=by
 obtain⟨dst,op,ty,pos,after,guard⟩:=o;simp only[]at V I;cases op<;>simp only[cA,reduceCtorEq]at V
 case move x=>
  obtain⟨Z,rfl⟩:=iX V;exact tm h rfl (I x dD _ Z)
 case assign x=>
  obtain⟨Z,rfl⟩:=iX V;exact tm h rfl (I x dD _ Z)
 case pick x y z=>
  unfold wG at V;split at V
  .rename_i hc;obtain⟨Z,rfl⟩:=iX V;have C:=I x dD _ hc;have:a.eval x=.bool true:=by generalize a.eval x=v at C;cases C;rfl
   exact tm h (v:=a.eval y) (by simp[execOp,asBool,this]) (I y dD _ Z)
  .rename_i hc;obtain⟨Z,rfl⟩:=iX V;have C:=I x dD _ hc;have:a.eval x=.bool false:=by generalize a.eval x=v at C;cases C;rfl
   exact tm h (v:=a.eval z) (by simp[execOp,asBool,this]) (I z dD _ Z)
  .simp at V
 case alloc t=>
  unfold uF at V;split at V
  .rename_i z hz;simp only[b9]at V;obtain⟨rfl,rfl⟩:=V;obtain⟨zv,z1,z2⟩:=tl hz;have W:=w1 h (z2 G) [] t;rw[ij,tg]at W;refine tq ⟨.pointer (some ⟨w.heap.size,0,none⟩),_,_,?_,?_,W⟩
   .simp[Instr.alloc,z1,newVar,newRow]
   .exact .ptr (off:=0) (oq _ _ _)
  .simp at V
 case box t x=>
  unfold uG at V;split at V
  .rename_i v Y;simp only[b9]at V;obtain⟨rfl,rfl⟩:=V;have W:=w1 h (I x dD _ Y).cells [] t;rw[ij,tg]at W;refine tq ⟨.pointer (some ⟨w.heap.size,0,none⟩),_,_,?_,?_,W⟩
   .simp[Instr.box,newVar,newRow]
   .exact .ptr (off:=0) (oq _ _ _)
  .simp at V
 case build t parts=>
  unfold wH at V;split at V
  .rename_i ps J;obtain⟨Z,rfl⟩:=iX V;obtain⟨q1,q2⟩:=w9 (G:=G) (a:=a) (fun p hp=>I p.2 Ap) J;have:=Lp (P:=P) (w:=w) q1 q2 Z;have he:(parts.toList.map fun x=>(x.1,a.eval x.2)).toArray=parts.map fun(i,x)=>(i,a.eval x):=by
    apply jX;simp
   rw[he]at this;exact jj h this
  .simp at V
 case buildSlice t len parts=>
  unfold uH at V;split at V
  .rename_i ps J;obtain⟨q1,q2⟩:=w9 (G:=G) (a:=a) (fun p hp=>I p.2 Ap) J;have:=(Dx (P:=P) (w:=w) q1 q2 V).sim h;have he:(parts.toList.map fun x=>(x.1,a.eval x.2)).toArray=parts.map fun(i,x)=>(i,a.eval x):=by
    apply jX;simp
   rw[he]at this;exact tq this
  .simp at V
 case load t x=>
  unfold uI at V;split at V
  .rename_i v Y;obtain⟨Z,rfl⟩:=iX V;exact jj h (Dp h (I x dD _ Y) Z)
  .simp at V
 case store t x y=>
  unfold wI at V;split at V
  .rename_i av vv ha Y;split at V
   .rename_i H1 hs;simp only[b9]at V;obtain⟨rfl,rfl⟩:=V;exact DI (KW h (I x dD _ ha) (I y dD _ Y) hs)
   .simp at V
  .simp at V
 case nilCheck x=>
  unfold wJ at V;split at V
  .rename_i r off Y;simp only[b9]at V;obtain⟨rfl,rfl⟩:=V;have O:=I x dD _ Y;refine tm h (v:=a.eval x) ?_ O;simp only[execOp];generalize a.eval x=v at O⊢;cases O;rfl
  .rename_i cs Y;simp only[b9]at V;obtain⟨rfl,rfl⟩:=V;have O:=I x dD _ Y;refine tm h (v:=a.eval x) ?_ O;simp only[execOp];generalize a.eval x=v at O⊢;cases O;rfl
  .simp at V
 case binOp op t x y yt=>
  unfold wK at V;split at V
  .rename_i M yv O L;obtain⟨Z,rfl⟩:=iX V;exact jj h (Ll (by rw[h.val];exact h.cz) (I x dD _ O) (I y dD _ L) Z)
  .simp at V
 case unOp op t x=>
  unfold wL at V;split at V
  .rename_i M O;obtain⟨Z,rfl⟩:=iX V;exact jj h (Lm (I x dD _ O) Z)
  .simp at V
 case convert s d x=>
  unfold uJ at V;split at V
  .rename_i M O;obtain⟨Z,rfl⟩:=iX V;exact jj h (LL h (I x dD _ O) Z)
  .simp at V
 case makeFunc fn first captured=>
  unfold wM at V;split at V
  .rename_i f vs U hvs;simp only[b9]at V;obtain⟨rfl,rfl⟩:=V;have hf:first=#[]:=by apply jX;simpa using U
   subst hf;have:=xh (G:=G) (a:=a) (fun x O=>I x (by simp[Op.operands];simpa using O)) hvs;refine jj h ⟨.func (.func f) #[] (captured.map a.eval),by simp[Instr.makeFunc],?_⟩;have he:captured.map a.eval=(captured.toList.map a.eval).toArray:=Aq;rw[he];exact .a9 this.1 this.2
  .simp at V
 case makeMap t r=>
  unfold uK at V;split at V
  .simp only[b9]at V;obtain⟨rfl,rfl⟩:=V;exact tq ⟨.map (some w.heap.size),_,_,by simp[Instr.makeMap],.map (oq _ _ _),KL h⟩
  .simp at V
 case makeSlice t l c'=>
  unfold uL at V;split at V
  .rename_i lv cv hl hc;exact tq ((Dy (I l dD _ hl) (I c' dD _ hc) V).sim h)
  .simp at V
 case slice t x lo hi mx=>
  unfold uM at V;split at V
  .rename_i M l hh O hl hi';obtain⟨Z,rfl⟩:=iX V;exact jj h (Ls h (I x dD _ O) (DJ (fun y L=>I y (by simp[Op.operands]at *;simp[L])) hl) (DJ (fun y L=>I y (by simp[Op.operands]at *;simp[L])) hi') Z)
  .simp at V
 case fieldAddr t x f=>
  unfold wN at V;split at V
  .rename_i M O;obtain⟨Z,rfl⟩:=iX V;exact jj h (KX (I x dD _ O) Z)
  .simp at V
 case field t x f=>
  unfold wO at V;split at V
  .rename_i M O;obtain⟨Z,rfl⟩:=iX V;exact jj h (KY (I x dD _ O) Z)
  .simp at V
 case indexAddr t x i=>
  unfold wP at V;split at V
  .rename_i M iv O hi;obtain⟨Z,rfl⟩:=iX V;exact jj h (KZ (I x dD _ O) (I i dD _ hi) Z)
  .simp at V
 case index t x i=>
  unfold wQ at V;split at V
  .rename_i M iv O hi;obtain⟨Z,rfl⟩:=iX V;exact jj h (La (I x dD _ O) (I i dD _ hi) Z)
  .simp at V
 case lookup t m k ok=>
  unfold uN at V;split at V
  .rename_i mv kv hm hk;obtain⟨Z,rfl⟩:=iX V;exact jj h (LF h (I m dD _ hm) (I k dD _ hk) Z)
  .simp at V
 case mapUpdate t m k v=>
  unfold wR at V;split at V
  .rename_i mv kv vv hm hk Y;split at V
   .rename_i H1 hs;simp only[b9]at V;obtain⟨rfl,rfl⟩:=V;exact DI (LJ h (I m dD _ hm) (I k dD _ hk) (I v dD _ Y) hs)
   .simp at V
  .simp at V
 case extract x i=>
  unfold wS at V;split at V
  .rename_i M O;obtain⟨Z,rfl⟩:=iX V;exact jj h (Lb (I x dD _ O) Z)
  .simp at V
def LO(h:R B H w G){keep:Bool}{b:Builtin}{ts:Array TypeId}{ty:TypeId}{consts:qB}(Y:bZ G cs vs)(C:mW P keep H b ts.toList cs=some (c,H')):
 rO P B H G w (builtin b ts ty consts vs.toArray) c H':=by
 unfold mW at C;split at C
 .split at C
  .rename_i t u s x M;have O:ts=#[t,u]:=by apply jX;simpa using M
   subst O
   match vs,Y with
   |[z,W],Y=>
    obtain⟨o,m⟩:=Y.a0;obtain⟨I,_⟩:=m.a0;exact tq (Ly h o I C)
   |[],Y=>have:=Y.1;simp at this
   |[_],Y=>have:=Y.1;simp at this
   |_::_::_::_,Y=>have:=Y.1;simp at this
  .simp at C
 .split at C
  .rename_i t x M;have O:ts=#[t]:=by apply jX;simpa using M
   subst O;split at C
   .rename_i v V;simp only[b9]at C;obtain⟨rfl,rfl⟩:=C
    match vs,Y with
    |[W],Y=>
     obtain⟨o,_⟩:=Y.a0;exact jj h (LA h o V)
    |[],Y=>have:=Y.1;simp at this
    |_::_::_,Y=>have:=Y.1;simp at this
   .simp at C
  .simp at C
 .split at C
  .rename_i x U;split at C
   .rename_i v Z;simp only[b9]at C;obtain⟨rfl,rfl⟩:=C
    match vs,Y with
    |[],Y=>have:=Y.1;simp at this
    |W::xvs,Y=>
     obtain⟨o,m⟩:=Y.a0;have:=Av (P:=P) (w:=w) o m Z;exact jj h (by simpa [Builtin.max_]using this)
   .simp at C
  .simp at C
 .split at C
  .rename_i x U;split at C
   .rename_i v Z;simp only[b9]at C;obtain⟨rfl,rfl⟩:=C
    match vs,Y with
    |[],Y=>have:=Y.1;simp at this
    |W::xvs,Y=>
     obtain⟨o,m⟩:=Y.a0;have:=Av (P:=P) (w:=w) o m Z;exact jj h (by simpa [Builtin.min_]using this)
   .simp at C
  .simp at C
 .simp at C
end
def Az:AX->Exit
 | .normal=>.normal
 | .exit id=>.exit id
 | .ret=>.ret
def iY(B:Bs)(N Z:Nat)(G:Gh)(w:World)(x:AX)(Y:ax)(H':Hp):Exit->Act->World->Prop:=fun e W L=>
 e=Az x/\∃O,TR N O Y W/\Step B Z G w H' L O/\W.defers=[]
structure Fit (P:Program):Prop where
 name:∀(f:FuncId) (fn:Func),P.funcs[f]?=some fn->fn.body.isSome=true->(fn.name == "runtime.NumGoroutine")=false
 mixed:P.follows .mixedOrders=true
structure Snd (P:Program) (B:Bs) (n:Nat) (ih:zac->Res):Prop where
 call:∀f args H r H',ih (.call f args H)=.val r H'->∀G w vs,R B H w G->bZ G args vs ->
  (∃fn,P.funcs[f]?=some fn/\fn.body.isSome=true)/\Calls P f vs.toArray w (fun e w'=>∃v G',e=.returned v/\VR G' r v/\Step B H.next G w H' w' G')
 aw:∀f N c E H x E' H',ih (.aw f N c E H)=.done x E' H'->∀G w a,R B H w G->TR N G E a->a.defers=[]->Code.wp P c (iY B N H.next G w x E' H') a w
 loop:∀f N c E H x E' H',ih (.aw f N (.loop c) E H)=.done x E' H'->∀G w a,R B H w G->TR N G E a->a.defers=[]->Code.rounds P c (iY B N H.next G w x E' H') n a w
theorem AA{P:Program}{c:Code}{Q o:Exit->Act->World->Prop}(h:∀e a w,Q e a w->o e a w):∀{n:Nat}{a:Act}{w:World},Code.rounds P c Q n a w->Code.rounds P c o n a w
 |0,_,_,hr=>hr
 |n+1,_,_,hr=>by
  rw[rounds_succ]at *;exact pB (fun e a w z=>by
   cases e with
   |normal=>exact AA h z
   |_=>exact h _ _ _ z) hr
def iY.trans{B:Bs}{W:Nat}{G Z:Gh}{w:World}{H' Y:Hp}{x:AX}{U:ax}(V:Step B W G w H' w' Z){e:Exit}{O:World}(h:iY B N H'.next Z w' x U Y e a O):iY B N W G w x U Y e a O:=by
 obtain⟨z,M,o,m,I⟩:=h;exact⟨z,M,o,V.trans m,I⟩
def xi:=@iY.trans
section
variable {P:Program} {B:Bs} {G:Gh} {H H':Hp} {w:World}
def AB(h:TR N G E a){x:Operand}(L:aH E x=some c):VR G c (a.eval x):=by
 cases x with
 |tmp t=>simp only[aH,aC]at L;subst L;exact h.bp t
 |const v=>exact tk L
 |global g=>simp[aH]at L
 |func f=>simp only[aH,aC]at L;subst L;exact .a9 (vs:=[]) rfl aE
def TR.dS(h:TR N G E a)(xs:Array Operand):rQ G E a xs:=fun _ _ _ hc=>AB h hc
theorem LP{d:Nat}(h:VR G (E.at d) (a.tmps.getD d undef)):(match E.at d with|.bool b=>some b |_=>none)=(match a.tmps[d]? with|some (.bool b)=>some b |_=>none):=by
 rw[gN]at h;cases hd:a.tmps[d]? with
 |none=>
  rw[hd]at h;simp only[Option.getD_none,undef]at h;generalize E.at d=c at h;cases h;rfl
 |some v=>
  rw[hd]at h;simp only[bK]at h;generalize E.at d=c at h;cases h<;>rfl
theorem LQ{j:Nat}(h:∀d,(ops[j]?).bind (·.dst)=some d->VR G (E.at d) (a.tmps.getD d undef)):wT ops.toList E j=yielded ops a.tmps j:=by
 unfold wT yielded;rw[u6];cases hd:(ops[j]?).bind (·.dst)with
 |none=>rfl
 |some d=>exact LP (h d hd)
theorem DK(h:∀j b d,o.guard=some (j,b)->(ops[j]?).bind (·.dst)=some d->VR G (E.at d) (a.tmps.getD d undef)):gH ops.toList E o=Region.wanted o (yielded ops a.tmps):=by
 unfold gH Region.wanted;cases L:o.guard with
 |none=>rfl
 |some p=>
  obtain⟨j,b⟩:=p;simp only[];rw[LQ (fun d hd=>h j b d L hd)];cases yielded ops a.tmps j with
  |none=>rfl
  |some b'=>cases b<;>cases b' <;>rfl
theorem xj(fit:Fit P)(hih:Snd P B n ih)(h:R B H w G)(hE:rQ G E a o.op.operands)(V:cZ P B.bN ih f E H o.op=.val c H')
 {K:Act->World->Prop}{Q:Exit->Act->World->Prop} (hK:∀v L M,VR M c v->Step B H.next G w H' L M->K (a.put o.dst v) L):o.wp P a w K Q:=by
 have U:∀s:Sem Next,rO P B H G w s c H'->execOp a.eval o=s->o.wp P a w K Q:=fun s hs he=>by
  obtain⟨m,L,M,v,h1,h2,h3,h4⟩:=hs;unfold Oper.wp;rw[he,h1];rcases h2 with rfl|⟨rfl,rfl⟩
  .exact hK v L M h3 h4
  .exact hK undef L M h3 h4
 unfold cZ at V;split at V
 .rename_i W O;unfold pj at V;split at V
  .rename_i g hg;split at V
   .rename_i k cap vs hgv J;have z:rQ G E a W.operands:=by rw[O]at hE;exact hE
    have hgr:=z g (by simp[Call.operands,hg]) _ hgv;have Z:=xh (G:=G) (a:=a) (fun x hx=>z x (by simp[Call.operands,hg];exact .inr (by simpa using hx))) J;generalize hge:a.eval g=gv at hgr;cases hgr with
    |a9 hl hv=>
     rename_i I;have hall:=Z.append (G:=G) ⟨hl,hv⟩;obtain⟨⟨fn,hfn,hbody⟩,Y⟩:=hih.call _ _ _ _ _ V G w _ h hall;have hname:=fit.name _ _ hfn hbody;unfold Oper.wp;have hrun:(execOp a.eval o).run P w=.ok (.enter k ((W.args.toList.map a.eval)++I).toArray) w:=by
      have C:W.args.map a.eval=(W.args.toList.map a.eval).toArray:=Aq;unfold execOp;rw[O];simp only[dy,resolve,hg,hge,Deferred.ofValue,iF,dC,invoke,callFunc,run_program,hfn,hname];simp only[cE,cm];have hb:fn.body.isNone=false:=by cases hb:fn.body<;>simp_all
      rw[hb];simp[C]
     rw[hrun];show Calls P k _ w _;refine Y.mono fun e L hr=>?_;obtain⟨v,M,rfl,h1,h2⟩:=hr;exact hK v L M h1 h2
   .simp at V
  .rename_i b hg;split at V
   .rename_i vs J;split at V
    .rename_i v H1 hb;simp only[Res.val.injEq]at V;obtain⟨rfl,rfl⟩:=V;have z:rQ G E a W.operands:=by rw[O]at hE;exact hE
     have Z:=xh (G:=G) (a:=a) (fun x hx=>z x (by simp[Call.operands,hg];simpa using hx)) J;have hs:=LO (ty:=o.type) (consts:=W.args.map fun|.const _=>true |_=>false) h Z hb;refine U _ hs ?_;have C:W.args.map a.eval=(W.args.toList.map a.eval).toArray:=Aq;unfold execOp;rw[O];simp only[resolve,hg,C];rfl
    .simp at V
   .simp at V
  .simp at V
 .rename_i op hne;unfold eA at V;split at V
  .rename_i v H1 ho;simp only[Res.val.injEq]at V;obtain⟨rfl,rfl⟩:=V;exact U _ (LN h hE ho) rfl
  .simp at V
theorem AC(fit:Fit P){n:Nat}{ih:zac->Res}(C:Snd P B n ih){f N:Nat}{ops:qG}:∀(l:qo) {E E':ax}{H:Hp}{x:AX}{a:Act}{w:World}{G:Gh}{Q:Exit->Act->World->Prop},hU P B.bN ih f N ops.toList l E H=.done x E' H' ->
 R B H w G->TR N G E a->a.defers=[]->(∀e M W,iY B N H.next G w x E' H' e M W->Q e M W)->wpList P ops Q l a w
 |[],E,E',H,x,a,w,G,Q,hr,h,ht,hd,hQ=>by
  simp only[hU,Res.done.injEq]at hr;obtain⟨rfl,rfl,rfl⟩:=hr;exact hQ _ _ _ ⟨rfl,G,ht,ik h,hd⟩
 |o::l,E,E',H,x,a,w,G,Q,hr,h,ht,hd,hQ=>by
  have m:∀E H,(List.rec (motive:=fun _=>ax->Hp->Res) (fun E H=>.done .normal E H)
   (fun o _ z E H=>match gH ops.toList E o with
     |true=>match cZ P B.bN ih f E H o.op with
      | .val v H=>iB z H (dH N E o.dst v)
      |_=>.aM
     |false=>iB z H (dH N E o.dst cT)) l E H:Res)=hU P B.bN ih f N ops.toList l E H:=fun _ _=>rfl
  have L:hU P B.bN ih f N ops.toList (o::l) E H=match gH ops.toList E o with
   |true=>match cZ P B.bN ih f E H o.op with
    | .val v H=>iB (hU P B.bN ih f N ops.toList l) H (dH N E o.dst v)
    |_=>.aM
   |false=>iB (hU P B.bN ih f N ops.toList l) H (dH N E o.dst cT):=rfl
  rw[L]at hr;have Y:=DK (G:=G) (E:=E) (a:=a) (ops:=ops) (o:=o) (fun _ _ d _ _=>ht.bp d);have I:∀V v,(a.put V v).defers=[]:=fun V v=>by cases V<;>exact hd
  cases J:gH ops.toList E o with
  |true=>
   rw[J]at hr Y;simp only[]at hr;split at hr
   .rename_i v H1 U;cases hp:dH N E o.dst v with
    |none=>rw[hp]at hr;simp[iB]at hr
    |some E1=>
     rw[hp]at hr;simp only[iB]at hr;unfold wpList;rw[aB Y.symm];refine .inl (xj fit C h (ht.dS _) U fun v' W G' hv Z=>?_);have O:TR N G' E1 (a.put o.dst v'):=(ht.mono Z.ext).put hv hp;exact AC fit C l hr Z.r O (I _ _) (fun e a w he=>hQ _ _ _ (xi Z he))
   .simp at hr
  |false=>
   rw[J]at hr Y;simp only[]at hr;cases hp:dH N E o.dst cT with
   |none=>rw[hp]at hr;simp[iB]at hr
   |some E1=>
    rw[hp]at hr;simp only[iB]at hr;unfold wpList;rw[ao (by rw[<-Y];simp)];exact AC fit C l hr h (ht.put (uX G) hp) (I _ _) hQ
end
section
variable {P:Program} {B:Bs} {G:Gh} {H H':Hp} {w:World} {cfg:Cfg}
theorem Sx.beq_eq:∀{a b:Sx},Sx.beq a b=true->a=b
 | .var i,b,h=>by
   cases b<;>simp only[Sx.beq,cE]at h;rw[gM h]
 | .lit i,b,h=>by
   cases b<;>simp only[Sx.beq,cE,lE]at h;rw[h]
 | .bT o k x y,b,h=>by
   cases b<;>simp only[Sx.beq,cE,j0]at h;obtain⟨⟨⟨rfl,rfl⟩,Z⟩,m⟩:=h;rw[Sx.beq_eq Z,Sx.beq_eq m]
 | .dk k x,b,h=>by
   cases b<;>simp only[Sx.beq,cE,j0]at h;obtain⟨rfl,Z⟩:=h;rw[Sx.beq_eq Z]
mutual
theorem AV.beq_eq:∀{a b:AV},AV.beq a b=true->a=b
 | .int k a,b,h=>by
   cases b<;>simp only[AV.beq,j0,lE,cE]at h;obtain⟨rfl,rfl⟩:=h;rfl
 | .sx k a,b,h=>by
   cases b<;>simp only[AV.beq,j0,cE]at h;obtain⟨rfl,Z⟩:=h;rw[Sx.beq_eq Z]
 | .bool a,b,h=>by
   cases b<;>simp only[AV.beq,lE,cE]at h;subst h;rfl
 | .ag a,b,h=>by
   cases b<;>simp only[AV.beq,lE,cE]at h;subst h;rfl
 | .bl,b,h=>by cases b<;>simp only[AV.beq,cE]at h;rfl
 | .a6,b,h=>by cases b<;>simp only[AV.beq,cE]at h;rfl
 | .bz,b,h=>by cases b<;>simp only[AV.beq,cE]at h;rfl
 | .aa,b,h=>by cases b<;>simp only[AV.beq,cE]at h;rfl
 | .ptr r o,b,h=>by
   cases b<;>simp only[AV.beq,ca,cE]at h;obtain⟨Z,m⟩:=h;rw[gM Z,gM m]
 | .a2 a,b,h=>by
   cases b<;>simp only[AV.beq,cE]at h;rw[mB h]
 | .sl r o l z,b,h=>by
   cases b<;>simp only[AV.beq,ca,cE]at h;obtain⟨⟨⟨Z,m⟩,I⟩,Y⟩:=h;rw[gM Z,gM m,gM I,gM Y]
 | .aq a,b,h=>by
   cases b<;>simp only[AV.beq,cE]at h;rw[DL h]
 | .map r,b,h=>by
   cases b<;>simp only[AV.beq,cE]at h;rw[gM h]
 | .a9 f a,b,h=>by
   cases b<;>simp only[AV.beq,ca,cE]at h;rw[gM h.1,mB h.2]
 | .agg a,b,h=>by
   cases b<;>simp only[AV.beq,cE]at h;rw[mB h]
 | .aO a,b,h=>by
   cases b<;>simp only[AV.beq,cE]at h;rw[mB h]
theorem mB:∀{a b:ql},jg a b=true->a=b
 |[],b,h=>by cases b<;>simp only[jg,cE]at h;rfl
 |a::x,b,h=>by
  cases b<;>simp only[jg,ca,cE]at h;rw[AV.beq_eq h.1,mB h.2]
theorem DL:∀{a b:List ql},rC a b=true->a=b
 |[],b,h=>by cases b<;>simp only[rC,cE]at h;rfl
 |a::x,b,h=>by
  cases b<;>simp only[rC,ca,cE]at h;rw[mB h.1,DL h.2]
end
theorem DM{o β:Type}:∀{a b:List (o×β)},a.map (·.1)=b.map (·.1)->a.map (·.2)=b.map (·.2)->a=b
 |[],b,h,_=>by cases b<;>simp at h;rfl
 |(x,y)::a,b,h,U=>by
  cases b with
  |nil=>simp at h
  |cons c b=>
   obtain⟨u,v⟩:=c;simp only[eJ,eU]at h U;obtain⟨rfl,h⟩:=h;obtain⟨rfl,U⟩:=U;rw[DM h U]
def HB.beq_eq{a b:HB}(h:HB.beq a b=true):a=b:=by
 cases a<;>cases b<;>simp only[HB.beq,ca,cE,lE]at h
 .obtain⟨⟨o,m⟩,I⟩:=h;rw[mB o,gM m,I]
 .rw[DM (mB h.1) (mB h.2)]
def kH(P:Program)(cfg:Cfg)(ih:zac->Res)(f N:Nat)(I:qo):List Rec->qo->ax->Hp->ax->Hp->Prop
 |[],[],E,H,E',H'=>E=E'/\H=H'
 |r::rs,o::l,E,H,E',H'=>r.o=o/\r.E=E/\r.H=H/\gH I E o=r.did/\(r.did=true->cZ P cfg ih f E H o.op=.val r.val r.H')/\(r.did=false->r.val=cT/\r.H'=H) /\
  ∃E1,dH N E o.dst r.val=some E1/\kH P cfg ih f N I rs l E1 r.H' E' H'
 |_,_,_,_,_,_=>False
theorem vb{ih:zac->Res}{f N:Nat}{I:qo}:∀{l:qo}{E E':ax}{H H':Hp}{rs:List Rec},gI P cfg ih f N I l E H=.done E' H' rs->kH P cfg ih f N I rs l E H E' H'
 |[],E,E',H,H',rs,h=>by
  simp only[gI,zao.done.injEq]at h;obtain⟨rfl,rfl,rfl⟩:=h;exact⟨rfl,rfl⟩
 |o::l,E,E',H,H',rs,h=>by
  simp only[gI]at h;cases Z:gH I E o with
  |true=>
   rw[Z]at h;simp only[]at h;cases V:cZ P cfg ih f E H o.op with
   |val v H1=>
    rw[V]at h;simp only[]at h;cases hp:dH N E o.dst v with
    |none=>rw[hp]at h;simp[ll,lj]at h
    |some E1=>
     rw[hp]at h;simp only[ll]at h;cases hr:gI P cfg ih f N I l E1 H1 with
     |aM=>rw[hr]at h;simp[lj]at h
     |done m U L=>
      rw[hr]at h;simp only[lj,zao.done.injEq]at h;obtain⟨rfl,rfl,rfl⟩:=h;exact⟨rfl,rfl,rfl,Z,fun _=>V,aE,E1,hp,vb hr⟩
   |done _ _ _=>rw[V]at h;simp at h
   |aM=>rw[V]at h;simp at h
  |false=>
   rw[Z]at h;simp only[]at h;cases hp:dH N E o.dst cT with
   |none=>rw[hp]at h;simp[ll,lj]at h
   |some E1=>
    rw[hp]at h;simp only[ll]at h;cases hr:gI P cfg ih f N I l E1 H with
    |aM=>rw[hr]at h;simp[lj]at h
    |done m U L=>
     rw[hr]at h;simp only[lj,zao.done.injEq]at h;obtain⟨rfl,rfl,rfl⟩:=h;exact⟨rfl,rfl,rfl,Z,aE,fun _=>⟨rfl,rfl⟩,E1,hp,vb hr⟩
def ep(rs:List Rec)(O:ax)(e:Nat):ax:=match rs[e]? with
 |some r=>r.E
 |none=>O
theorem AD{ih:zac->Res}{f N:Nat}{I:qo}:∀{rs:List Rec}{l:qo}{E E':ax}{H H':Hp},kH P cfg ih f N I rs l E H E' H'->rs.length=l.length
 |[],[],_,_,_,_,_=>rfl
 |[],_::_,_,_,_,_,h=>by simp[kH]at h
 |_::_,[],_,_,_,_,h=>by simp[kH]at h
 |r::rs,o::l,E,E',H,H',h=>by
  obtain⟨_,_,_,_,_,_,E1,_,h⟩:=h;simp[AD h]
def AE{f:Nat}{I:qo}{rs:List Rec}{l:qo}{O:ax}{H H':Hp}(h:kH P cfg ih f N I rs l E H O H'):ep rs O 0=E/\bY rs H' 0=H:=by
 cases rs with
 |nil=>
  cases l with
  |nil=>obtain⟨rfl,rfl⟩:=h;exact⟨rfl,rfl⟩
  |cons o l=>simp[kH]at h
 |cons r rs=>
  cases l with
  |nil=>simp[kH]at h
  |cons o l=>
   obtain⟨_,Z,m,_⟩:=h;exact⟨by simp[ep,Z],by simp[bY,m]⟩
structure AtD (P:Program) (cfg:Cfg) (ih:zac->Res) (f N:Nat) (all:qo) (o:Oper) (r:Rec) (E E1:ax) (H H1:Hp):Prop where
 eo:r.o=o
 eE:r.E=E
 eH:r.H=H
 d4:gH all E o=r.did
 dE:r.did=true->cZ P cfg ih f E H o.op=.val r.val H1
 no:r.did=false->r.val=cT/\H1=H
 put:dH N E o.dst r.val=some E1
 eH':r.H'=H1
theorem rR{ih:zac->Res}{f N:Nat}{I:qo}:∀{rs:List Rec}{l:qo}{E E':ax}{H H':Hp},kH P cfg ih f N I rs l E H E' H'->∀{i:Nat}{r:Rec},rs[i]?=some r ->
 ∃o,l[i]?=some o/\AtD P cfg ih f N I o r (ep rs E' i) (ep rs E' (i+1)) (bY rs H' i) (bY rs H' (i+1))
 |[],_,_,_,_,_,_,i,r,hr=>by simp at hr
 |r::rs,[],_,_,_,_,h,_,_,_=>by simp[kH]at h
 |r::rs,o::l,E,E',H,H',h,i,r',hr=>by
  obtain⟨V,m,W,U,O,C,E1,J,L⟩:=h;obtain⟨z,z2⟩:=AE L;cases i with
  |zero=>
   simp at hr;subst hr;have M:ep (r::rs) E' 1=E1:=by rw[<-z];simp[ep]
   have Y:bY (r::rs) H' 1=r.H':=by rw[<-z2];simp[bY]
   have e3:ep (r::rs) E' 0=E:=by simp[ep,m]
   have e4:bY (r::rs) H' 0=H:=by simp[bY,W]
   refine⟨o,rfl,?_⟩;rw[M,Y,e3,e4];exact⟨V,m,W,U,O,fun Z=>⟨(C Z).1,(C Z).2⟩,J,rfl⟩
  |succ i=>
   obtain⟨o',g1,g2⟩:=rR L (i:=i) (r:=r') (by simpa using hr);have M:∀k,ep (r::rs) E' (k+1)=ep rs E' k:=fun k=>by simp[ep]
   have Y:∀k,bY (r::rs) H' (k+1)=bY rs H' k:=fun k=>by simp[bY]
   refine⟨o',by simpa using g1,?_⟩;rw[M,M,Y,Y];exact g2
def ou(op:Op):Bool:=match eB op with|.calm=>true |_=>false
def ng(op:Op):Bool:=match eB op with|.read=>true |_=>false
def LR{op:Op}(z:ou op=true):∃u,∀X,cA P D E X op=ret X u:=by
 cases op<;>simp only[ou,eB,cE]at z<;>simp only[cA]
 case move x=>exact⟨_,fun X=>rfl⟩
 case assign x=>exact⟨_,fun X=>rfl⟩
 case pick c a b=>
  unfold wG;cases aH E c with
  |none=>exact⟨none,fun X=>rfl⟩
  |some v=>cases v with
   |bool t=>cases t<;>exact⟨_,fun X=>rfl⟩
   |_=>exact⟨none,fun X=>rfl⟩
 case build t parts=>
  unfold wH;cases iW E parts.toList with
  |none=>exact⟨none,fun X=>rfl⟩
  |some Z=>exact⟨_,fun X=>rfl⟩
 case nilCheck x=>
  unfold wJ;cases aH E x with
  |none=>exact⟨none,fun X=>rfl⟩
  |some v=>cases v with
   |ptr r o=>exact⟨some (.ptr r o),fun X=>rfl⟩
   |a2 cs=>exact⟨some (.a2 cs),fun X=>rfl⟩
   |_=>exact⟨none,fun X=>rfl⟩
 case binOp op t x y yt=>
  unfold wK;cases aH E x with
  |none=>exact⟨none,fun X=>rfl⟩
  |some v=>cases aH E y with
   |none=>exact⟨none,fun X=>rfl⟩
   |some u=>exact⟨_,fun X=>rfl⟩
 case unOp op t x=>
  unfold wL;cases aH E x with
  |none=>exact⟨none,fun X=>rfl⟩
  |some v=>exact⟨_,fun X=>rfl⟩
 case makeFunc fn first captured=>
  unfold wM;cases fn with
  |func f=>
   cases first.toList with
   |nil=>cases fA E captured.toList with
    |none=>exact⟨none,fun X=>rfl⟩
    |some vs=>exact⟨some (.a9 f vs),fun X=>rfl⟩
   |cons _ _=>exact⟨none,fun X=>rfl⟩
  |_=>exact⟨none,fun X=>rfl⟩
 case fieldAddr t x f=>
  unfold wN;cases aH E x with
  |none=>exact⟨none,fun X=>rfl⟩
  |some v=>exact⟨_,fun X=>rfl⟩
 case field t x f=>
  unfold wO;cases aH E x with
  |none=>exact⟨none,fun X=>rfl⟩
  |some v=>exact⟨_,fun X=>rfl⟩
 case indexAddr t x i=>
  unfold wP;cases aH E x with
  |none=>exact⟨none,fun X=>rfl⟩
  |some v=>cases aH E i with
   |none=>exact⟨none,fun X=>rfl⟩
   |some u=>exact⟨_,fun X=>rfl⟩
 case index t x i=>
  unfold wQ;cases aH E x with
  |none=>exact⟨none,fun X=>rfl⟩
  |some v=>cases aH E i with
   |none=>exact⟨none,fun X=>rfl⟩
   |some u=>exact⟨_,fun X=>rfl⟩
 case extract x i=>
  unfold wS;cases aH E x with
  |none=>exact⟨none,fun X=>rfl⟩
  |some v=>exact⟨_,fun X=>rfl⟩
 all_goals exact⟨none,fun X=>rfl⟩
def AF{op:Op}(z:ou op=true)(h:cA P D E H op=some (v,H')):H'=H/\∀X,cA P D E X op=some (v,X):=by
 obtain⟨u,m⟩:=LR (P:=P) (D:=D) (E:=E) z;rw[m]at h;obtain⟨rfl,rfl⟩:=iX h;exact⟨rfl,fun X=>by rw[m];rfl⟩
def AG{op:Op}(z:ng op=true)(h:cZ P cfg ih f E H op=.val v H'):H'=H:=by
 cases op<;>simp only[ng,eB,cE]at z<;>simp only[cZ,cA]at h
 case load t x=>
  unfold uI at h;split at h
  .cases O:eR P H t ‹AV› <;>rw[O]at h<;>simp[ret,eA]at h;exact h.2.symm
  .simp[eA]at h
 case slice t x lo hi mx=>
  unfold uM at h;split at h
  .rename_i W lv Y _ _ _;cases O:lc P H t W lv Y<;>rw[O]at h<;>simp[ret,eA]at h;exact h.2.symm
  .simp[eA]at h
 case convert s d x=>
  unfold uJ at h;split at h
  .cases O:fB P H s d ‹AV› <;>rw[O]at h<;>simp[ret,eA]at h;exact h.2.symm
  .simp[eA]at h
 case lookup t m k ok=>
  unfold uN at h;split at h
  .rename_i mv U _ _;cases O:gG P H t mv U ok<;>rw[O]at h<;>simp[ret,eA]at h;exact h.2.symm
  .simp[eA]at h
 case call c=>
  unfold pj at h;cases hc:c.callee with
  |value g=>rw[hc]at z;simp at z
  |invoke g m=>rw[hc]at z;simp at z
  |builtin b=>
   rw[hc]at z h;simp only[]at h;split at h
   .rename_i vs _;cases b<;>simp only[cE]at z<;>simp only[mW]at h;all_goals
     split at h
     .rename_i M H1 C;simp only[Res.val.injEq]at h;obtain⟨rfl,rfl⟩:=h;split at C
      .split at C
       .simp only[b9]at C;exact C.2.symm
       .simp at C
      .simp at C
     .simp at h
   .simp at h
def LS(z:pn o=true)(h:cA P D E H o.op=some (v,H')):∃W,H'=H.alloc W:=by
 obtain⟨V,m,I,J,L,guard⟩:=o;simp only[]at h;cases m<;>simp only[pn,eB,cE]at z<;>simp only[cA,reduceCtorEq]at h
 case alloc t=>
  unfold uF at h;split at h
  .simp only[b9]at h;exact⟨_,h.2.symm⟩
  .simp at h
 case box t x=>
  unfold uG at h;split at h
  .simp only[b9]at h;exact⟨_,h.2.symm⟩
  .simp at h
 case buildSlice t len parts=>
  unfold uH at h;split at h
  .unfold ec at h;(repeat' split at h)<;>first|(simp only[b9]at h;exact⟨_,h.2.symm⟩)|simp at h
  .simp at h
 case makeMap t r=>
  unfold uK at h;split at h
  .simp only[b9]at h;exact⟨_,h.2.symm⟩
  .simp at h
 case makeSlice t l c=>
  unfold uL at h;split at h
  .unfold mw at h;(repeat' split at h)<;>first|(simp only[b9]at h;exact⟨_,h.2.symm⟩)|simp at h
  .simp at h
def rS{op:Op}(M:∀c,op≠.call c):cZ P cfg ih f E H op=.val v H'↔cA P cfg.b9 E H op=some (v,H'):=by
 have:cZ P cfg ih f E H op=eA (cA P cfg.b9 E H op):=by
  unfold cZ;split
  .exact(M _ rfl).elim
  .rfl
 rw[this];cases cA P cfg.b9 E H op with
 |none=>simp[eA]
 |some p=>obtain⟨a,b⟩:=p;simp[eA]
def LU(z:jT o=false)(h:cZ P cfg ih f E H o.op=.val v H'):H'=H\/∃W,H'=H.alloc W:=by
 cases Z:eB o.op with
 |cO=>simp[jT,Z]at z
 |read=>exact .inl (AG (by simp[ng,Z]) h)
 |calm=>
  have M:∀c,o.op≠.call c:=fun c e=>by
   rw[e]at Z;simp only[eB]at Z;split at Z<;>simp at Z
  exact .inl (AF (P:=P) (by simp[ou,Z]) ((rS M).1 h)).1
 |make=>
  have M:∀c,o.op≠.call c:=fun c e=>by
   rw[e]at Z;simp only[eB]at Z;split at Z<;>simp at Z
  exact .inr (LS (by simp[pn,Z]) ((rS M).1 h))
end
end Go.Ab
