/- Lemmas for the last file. -/
import Derived.Test.YtbflaciihaijgaaGreatREB
set_option linter.all false
set_option maxHeartbeats 32000000
namespace Go.Ab
set_option maxRecDepth 20000
open Go
abbrev qA:=Array Bool
abbrev qp:=List Int
variable{qb:Prop}
def AD(h:qb:=by simp[Builtin.lenOf]):=h
def HE(h:qb:=by show J.data.toList.length=J.data.size;simp):=h
def te(h:qb:=by rw[List.length_take];omega):=h
def ye(h:qb:=by simp[Builtin.len_,dQ hd,goInt]):=h
def fe(h:qb:=by simp[Op.operands]):=h
def DG(h:qb:=by simp only[Op.operands,List.mem_toArray,List.mem_map];exact⟨p,hp,rfl⟩):=h
def DH(h:qb:=by apply Array.ext';simp):=h
def AE(h:qb:=by simpa using hx):=h
def iI:=@List.flatten_cons
def tf:=@Nat.zero_mul
def DI:=@Go.run_firstCells_some
def fq:=@List.mem_of_getElem?
def gV:=@List.drop_zero
def AF:=@Nat.sub_zero
def yf:=@List.take_length
def cN:=@Bool.and_eq_true
def yg:=@Nat.le_of_ble_eq_true
def dg:=@Bool.false_eq_true
def AG:=@List.drop_append_of_le_length
def AH:=@List.eq_nil_of_length_eq_zero
def wa:=@List.all_append
def kR:=@decide_eq_true_eq
def bE:=@Option.getD_some
def AI:=@List.getElem?_set
def uH:=@Array.getElem?_toList
def ew:=@List.cons.injEq
def jS:=@Nat.mul_one
def tg:=@Go.Code.wp_mono
def el:=@List.map_cons
def jj:=And.intro @cN @kR
end Go.Ab
namespace Go.Ab
set_option maxRecDepth 20000
open Go Go.RowKit
variable{cs:qm}{vs:qw}{s n b K N:Nat}{t u e A:TypeId}{x c y k v:AV}{J d:TypeDesc}{a:Act}{F m Z:Value}{w':World}{o:Oper}{E:aD}{D:BinOp->Sx->Sx->qy}{ops:qE}{ih:zdc->Res}{f:FuncId}
section
variable {P:Program} {B:Bs} {G:Gh} {H H':Hp} {w:World}
def bT.b0(h:bT G cs vs)(M:cs.all AV.one=true):∀v∈vs,v.oneCell'=true:=fun v U=>by
 obtain⟨i,F,rfl⟩:=List.getElem_of_mem U;have o:i<cs.length:=by rw[h.1];exact F
 rw[(h.2 i _ _ (bt o) (bt F)).b0];exact kj.1 M _ (ek o)
def Qo{xs:List qm}(S:∀(i:Nat) (z:qm),xs[i]?=some z->z.length=s):xs.flatten.length=xs.length*s /\
 ∀(i j:Nat) (c:AV),j<s->xs.flatten[i*s+j]?=some c->∃z,xs[i]?=some z/\z[j]?=some c:=by
 induction xs with
 |nil=>exact⟨aI,aI⟩
 |cons z xs ih=>
  have hr:=S 0 z rfl;obtain⟨Z,m⟩:=ih (fun i r F=>S (i+1) r oL);refine⟨by simp[Z,hr,ta];omega,fun i j c A hc=>?_⟩;rw[iI]at hc;cases i with
  |zero=>
   rw[tf,bR,lY aa]at hc;exact⟨z,rfl,hc⟩
  |succ i=>
   rw[nJ (by rw[hr,ta];omega)]at hc;rw[hr,show(i+1)*s+j-s=i*s+j by rw[ta];omega]at hc;obtain⟨r,o,Y⟩:=m i j c A hc;exact⟨r,by simpa using o,Y⟩
def Qp{k:Nat}(h:k<n*s):k/s<n/\k%s<s/\k=k/s*s+k%s:=by
 have S:0<s:=by
  rcases Nat.eq_zero_or_pos s with e|e
  .subst e;omega
  .exact e
 refine⟨(Nat.div_lt_iff_lt_mul S).2 h,Nat.mod_lt _ S,?_⟩;have:=Nat.div_add_mod k s;rw[Nat.mul_comm]at this;omega
def Qq(h:R B H w G){U:Value}{lo O:qv}{Y V:qH}(M:VR G x U)(K:uG G lo Y)(J:uG G O V)(S:nC P H t x lo O=some c):
 ∃v,(Instr.sliceAt t U Y V none).run P w=.ok v w/\VR G c v:=by
 unfold nC at S;split at S
 .rename_i r F;split at S
  .rename_i n e cs I C hd A;split at S
   .rename_i z l m j bl bh;split at S
    .rename_i hc;obtain⟨h1,h2,h3⟩:=hc;cases M with
     |ptr hr=>
      rename_i b o x;have hf:=h.bL _ _ _ _ _ _ _ hr A;have hb:=DE (P:=P) (w:=w) (cap:=n) K J bl bh h1 h2 (aT _) false;have Z:(Instr.sliceAt t (.pointer (some ⟨b,o+F,none⟩)) Y V none).run P w=.ok (.slice (some (if n=l then ⟨b,o+F,none⟩else ⟨b,o+F+l*z,none⟩)) (m-l) (n-l)) w:=by
       simp only[Instr.sliceAt,eY,dQ hd,fd];simp[Instr.sureAddr,hb,jR j,mI]
      split at S
      .rename_i e1;simp only[aH]at S;subst S;subst e1;rw[uA]at Z;exact⟨_,Z,.cb _ _⟩
      .rename_i hne;simp only[aH]at S;subst S;rw[ad aa]at Z;refine⟨_,Z,?_⟩;rw[gU];refine .sl hr aa ?_;have e3:(n-l)*z+l*z=n*z:=Dr;omega
    .simp at S
   .simp at S
  .simp at S
 .exact Qm M K J S
def DJ(h:R B H w G){xv:Value}{l:qm}(hx:VR G x xv)(S:fc H s x=some (n,l)):
 ∃nv,bT G l nv/\nv.length=n*s/\(∀A,(Builtin.lenOf xv).run P A=.ok n A)/\(∀A,(∀a,A.cell? a=w.cell? a)->(Builtin.firstCells s n xv).run P A=.ok nv.toArray A):=by
 unfold fc at S;split at S
 .rename_i r off Y z;cases hx with
  |sl hr hl hc=>
   rename_i b o x V;split at S
   .rename_i cs imm tip hg;simp only[]at S;split at S
    .rename_i C;simp only[cC]at S;obtain⟨rfl,rfl⟩:=S;obtain⟨vs,h1,h2⟩:=(((h.cells _ _ _ _ _ _ _ hr hg).drop off).take (Y*s)).list;have O:vs.length=Y*s:=by rw[<-h1.1];exact C
     refine⟨vs,h1,O,fun A=>AD,fun A I=>?_⟩;exact DI A s Y _ Y V vs O (fun j v hj=>by rw[I,mI];exact h2 j v hj)
    .simp at S
   .simp at S
 .rename_i U;split at S
  .rename_i m;simp only[cC]at S;obtain⟨rfl,rfl⟩:=S;have K:∀(i:Nat) (Z:qm),U[i]?=some Z->Z.length=s:=fun i Z hi=>by
    have:=kj.1 m Z (fq hi);simpa using this
   obtain⟨hfl,hfg⟩:=Qo K;cases hx with
   |cb a V=>
    refine⟨[],kQ G,aI,fun A=>AD,fun A I=>?_⟩;cases a with
    |none=>simp[Builtin.firstCells]
    |some a=>
     simp[Builtin.firstCells];rfl
   |ai vs hz hF F hcap=>
    rename_i b o V z;have hzs:U.length=0\/z=s:=by
     cases U with
     |nil=>exact .inl rfl
     |cons Z U=>exact .inr (by rw[<-hz 0 Z rfl,K 0 Z rfl])
    have hh:iU G w b o U.flatten:=fun k c hk=>by
     have M:k<U.length*s:=by rw[<-hfl];exact(eu.1 hk).1
     obtain⟨d1,d2,d3⟩:=Qp M;have hz':z=s:=by
      rcases hzs with e|e
      .rw[e]at M;omega
      .exact e
     subst hz';obtain⟨Z,g1,g2⟩:=hfg (k/z) (k%z) c d2 (by rw[<-d3];exact hk);refine⟨vs (k/z) (k%z),?_,F _ _ Z c g1 g2⟩;have:=h.dr _ _ _ (hF (k/z) (k%z) d1 d2);rw[show o+k=o+k/z*z+k%z by omega];exact this
    obtain⟨nv,h1,h2⟩:=hh.list;have O:nv.length=U.length*s:=by rw[<-h1.1];exact hfl
    refine⟨nv,h1,O,fun A=>AD,fun A I=>?_⟩;exact DI A s U.length _ U.length V nv O (fun j v hj=>by rw[I,mI];exact h2 j v hj)
  .simp at S
 .simp only[cC]at S;obtain⟨rfl,rfl⟩:=S;cases hx;exact⟨[],kQ G,aI,fun A=>AD,fun A I=>by simp[Builtin.firstCells]⟩
 .rename_i b;split at S
  .rename_i e;subst e;simp only[cC]at S;obtain⟨rfl,rfl⟩:=S;cases hx with
   |ae J _ hb=>
    subst hb;have hsz:J.data.toList.length=J.size:=HE;refine⟨J.data.toList.map fun x=>.int .u8 x.toNat,⟨aI,fun i c v hc F=>?_⟩,aI,fun A=>by simp[Builtin.lenOf,hsz],fun A I=>?_⟩
    .rw[ev]at hc F;cases hi:J.data.toList[i]? with
     |none=>rw[hi]at hc;simp at hc
     |some u=>
      rw[hi]at hc F;simp only[iT]at hc F;subst hc F;exact .int _ _
    .simp only[Builtin.firstCells,jQ]
     congr 1
     apply lZ;have:(J.extract 0 J.data.toList.length).data.toList=J.data.toList:=by
      rw[Lib.extract_data,gV,AF,yf]
     simp only[Dv,this]
  .simp at S
 .simp at S
def AJ(z:Array Value)(n:Nat):(Builtin.zeroCells z n).toList.length=n*z.size:=by simp[Builtin.zeroCells]
def HF{ty:TypeId}(hd:P.underlying t=some (.slice e))(j:P.underlying u=some J)(K:∀k,J≠.int k)(S:bD P e=some s)
 {a:Option Addr}{len cap:Nat} (C:len+n<=cap) {Z:qw} (Y:(Builtin.lenOf F).run P w=.ok n w) (m:(Builtin.firstCells s n F).run P w=.ok Z.toArray w) :
 (Builtin.append_ #[t,u] ty #[.slice a len cap,F]).run P w=(match a with
   |some a=>((storeCells (a.add (len*s)) Z).run P w).andThen fun _ A=>.ok (.slice (some a) (len+n) cap) A
   |none=>.ok (.slice none (len+n) cap) w):=by
 have V:(match J with|.int _=>true |_=>false)=false:=by cases J<;>first|rfl|exact(K _ rfl).elim
 simp only[Builtin.append_];simp[dQ hd,dQ j,jR S,Y];rw[au C,m];cases a<;>simp
theorem Qr{ty:TypeId}(hd:P.underlying t=some (.slice e))(j:P.underlying u=some J)(K:∀k,J≠.int k)(I:bD P e=some s)(z:cL P e=some b)
 {S:Value} (A:∀w,(zeroValue e).run P w=.ok S w)
 {a:Option Addr}{len cap:Nat} (C:cap<len+n) (M:(len+n)*b<=dd) (V:len+n<=dd) {ov O:qw} (o:(Builtin.lenOf F).run P w=.ok n w) (m:(Builtin.firstCells s n F).run P w.drew=.ok O.toArray w.drew)
 (ho:(Builtin.firstCells s len (.slice a len cap)).run P w.drew=.ok ov.toArray w.drew) :
 (Builtin.append_ #[t,u] ty #[.slice a len cap,F]).run P w=.ok (.slice (some ⟨w.heap.size,0,none⟩) (len+n) (grownCap w (len+n) cap e))
   (w.drew.alloc (.cells (ov++O++(Builtin.zeroCells S.cells (grownCap w (len+n) cap e-(len+n))).toList).toArray e)):=by
 have hz':(match J with|.int _=>true |_=>false)=false:=by cases J<;>first|rfl|exact(K _ rfl).elim
 obtain⟨i,hi,Z⟩:∃i,P.info? e=some i/\i.bytes=b:=by simpa [cL,x7]using z
 have hm:dd=70368744177664:=rfl;rw[hm]at M V;have Y:¬(281474976710656<Builtin.nextslicecap (len+n) cap*b):=by
  have:=growslice_fits C (bytes:=b) aa;omega
 have U:¬(9223372036854775807<((len:Int)+(n:Int))):=aa;have h1:¬(len+n<=cap):=aa;simp only[Builtin.append_];simp[dQ hd,dQ j,jR I,o,h1,td hi,Z,U,Y,Question.forced,ho,m,A,newRow,grownCap]
 congr 2
 apply lZ;simp
def R.heap(h:R B H w G)(e:w'.heap=w.heap):R B H w' G:=by
 have k:∀a,w'.cell? a=w.cell? a:=fun a=>by simp[World.cell?,e]
 have S:∀a,w'.frozen? a=w.frozen? a:=fun a=>by simp[World.frozen?,e]
 exact{
  bY:=by rw[e];exact h.bY
  di:=h.di
  lt:=fun r b o x hr=>by rw[e];exact h.lt r b o x hr
  cells:=fun r b o x cs imm I hr hc j c A=>by rw[k];exact h.cells r b o x cs imm I hr hc j c A
  cu:=h.cu
  ext:=h.ext
  bL:=h.bL
  bu:=fun r b o x cs imm I hr hc j A F=>by rw[k,S];exact h.bu r b o x cs imm I hr hc j A F
  apart:=h.apart
  map:=fun r b o x U hr hc=>by rw[e];exact h.map r b o x U hr hc
  aE:=h.aE
  dr:=fun b o v m=>by rw[k];exact h.dr b o v m
  val:=h.val
  eb:=h.eb}
def Step.ed{Z:Nat}{m:Gh}(h:Step B Z G w.drew H' w' m):Step B Z G w H' w' m:=
 ⟨h.r,h.ext,⟨h.fr.os,h.fr.tape,h.fr.output,h.fr.size,h.fr.block⟩,h.new,h.dn,h.mono,h.ef⟩
def iU.e9{o off len:Nat}(M:iU G w b o cs)(K:off+len*s=cs.length){cap:Nat}:
 ∃ov,bT G (cs.drop off) ov/\ov.length=len*s/\∀A,(∀a,A.cell? a=w.cell? a)->(Builtin.firstCells s len (.slice (some ⟨b,o+off,none⟩) len cap)).run P A=.ok ov.toArray A:=by
 obtain⟨vs,Z,m⟩:=(M.drop off).list;have O:vs.length=len*s:=by rw[<-Z.1,jP];omega
 exact⟨vs,Z,O,fun A J=>DI A s len _ len cap vs O (fun j v Y=>by rw[J,mI];exact m j v Y)⟩
def HG(h:ip P u=true):∃d,P.underlying u=some d/\∀k,d≠.int k:=by
 unfold ip at h;split at h
 .rename_i e hd;exact⟨_,hd,aI⟩
 .rename_i hd;exact⟨_,hd,aI⟩
 .simp at h
def Qs(h:R B H w G)(keep:Bool)(s:Nat)(sv:AV):Step B H.next G w (fV keep H s sv) w G:=by
 unfold fV;split
 .rename_i r off len z;split
  .rename_i cs imm hg;split
   .rename_i hc;simp only[cN]at hc;have h1:off+len*s<cs.length:=by simpa [iH]using hc.1.2
    have h2:=yg hc.2;generalize off+len*s=m at h1 h2;have hgs:∀I b',(H.set r (.cells (cs.take m) imm true)).get I=some b'->(I=r/\b'=.cells (cs.take m) imm true)\/(I≠r/\H.get I=some b'):=fun I b' he=>by
     rw[aO]at he;split at he
     .rename_i e;simp only[aH]at he;exact .inl ⟨e,he.symm⟩
     .rename_i e;exact .inr ⟨e,he⟩
    have Y:∀I C M A,(H.set r (.cells (cs.take m) imm true)).get I=some (.cells C M A)->∃Z,H.get I=some (.cells Z M A)/\(∀(j:Nat) c,C[j]?=some c->Z[j]?=some c)/\C.length<=Z.length/\(∀x,eQ x C A=eQ x Z A):=fun I C M A he=>by
     rcases hgs I _ he with⟨rfl,e⟩|⟨_,e⟩
     .simp only[HB.cells.injEq]at e;obtain⟨rfl,rfl,rfl⟩:=e;refine⟨cs,hg,fun j c U=>?_,te,fun x=>rfl⟩;rw[rN]at U;split at U
      .exact U
      .simp at U
     .exact⟨C,e,fun _ _ h=>h,aT _,fun _=>rfl⟩
    refine⟨?_,vW _,ya _ _,uD _ _,fun _ _ h=>.inl h,aT _,fun _ _ _ h=>.inl h⟩;exact{
     bY:=h.bY
     di:=h.di
     lt:=h.lt
     cells:=fun I b o x C M A hr F j c U=>by
      obtain⟨Z,V,e2,_⟩:=Y I C M A F;exact h.cells I b o x Z M A hr V j c (e2 j c U)
     cu:=fun I b o x C M A hr F j U hjl=>by
      obtain⟨Z,V,_,e3,_⟩:=Y I C M A F;exact h.cu I b o x Z M A hr V j U aa
     ext:=fun I b o x C M A hr F=>by
      obtain⟨Z,V,_,e3,e4⟩:=Y I C M A F;have:=h.ext I b o x Z M A hr V;rw[e4];omega
     bL:=fun I b o x C M A hr F=>by
      obtain⟨Z,V,_,e3,e4⟩:=Y I C M A F;have:=h.bL I b o x Z M A hr V;omega
     bu:=fun I b o x C M A hr F j U hjl=>by
      obtain⟨Z,V,_,_,e4⟩:=Y I C M A F;exact h.bu I b o x Z M A hr V j U (by rw[<-e4];exact hjl)
     apart:=fun aw b1 o1 x1 cs1 O K a1 b2 o2 x2 cs2 J tip2 hr1 hc1 hr2 S hne j j' q1 q2 q3 q4=>by
      obtain⟨cs01,V,_,_,e14⟩:=Y aw cs1 O K hc1;obtain⟨cs02,e2,_,_,e24⟩:=Y a1 cs2 J tip2 S;exact h.apart aw b1 o1 x1 cs01 O K a1 b2 o2 x2 cs02 J tip2 hr1 V hr2 e2 hne j j' q1 (by rw[<-e14];exact q2) q3 (by rw[<-e24];exact q4)
     map:=fun I b o x es hr F=>by
      rcases hgs I _ F with⟨_,e⟩|⟨_,e⟩
      .simp at e
      .exact h.map I b o x es hr e
     aE:=fun aw b1 o1 x1 es a1 b2 o2 x2 hr1 hc1 hr2 S hne=>by
      rcases hgs aw _ hc1 with⟨_,e⟩|⟨_,e⟩
      .simp at e
      .refine h.aE aw b1 o1 x1 es a1 b2 o2 x2 hr1 e hr2 ?_ hne;rw[aO]at S;split at S
       .rename_i e2;rw[e2,hg];rfl
       .exact S
     dr:=h.dr
     val:=h.val
     eb:=h.eb}
   .exact jD h
  .exact jD h
 .exact jD h
structure zdu (P:Program) (w:World) (t u ty e:TypeId) (s b:Nat) (xv:Value) (n:Nat) (nv:qw):Prop where
 fit:∀{a:Option Addr}{len cap:Nat},len+n<=cap->(Builtin.append_ #[t,u] ty #[.slice a len cap,xv]).run P w=(match a with
  |some a=>((storeCells (a.add (len*s)) nv).run P w).andThen fun _ w'=>.ok (.slice (some a) (len+n) cap) w'
  |none=>.ok (.slice none (len+n) cap) w)
 new:∀{zv:Value},(∀w,(zeroValue e).run P w=.ok zv w)->∀{a:Option Addr}{len cap:Nat}{ov:qw},cap<len+n->(len+n)*b<=dd->len+n<=dd->(Builtin.firstCells s len (.slice a len cap)).run P w.drew=.ok ov.toArray w.drew ->
  (Builtin.append_ #[t,u] ty #[.slice a len cap,xv]).run P w=.ok (.slice (some ⟨w.heap.size,0,none⟩) (len+n) (grownCap w (len+n) cap e))
    (w.drew.alloc (.cells (ov++nv++(Builtin.zeroCells zv.cells (grownCap w (len+n) cap e-(len+n))).toList).toArray e))
def HH(h:R B H w G){keep:Bool}{ty:TypeId}{z Z:qm}{nv:qw}{sv:AV}{svv xv:Value}(hs:bD P e=some s)(hb:cL P e=some b)(hz:cn P e=some z)(hzl:z.length=s)
 (hA:zdu P w t u ty e s b xv n nv) (h1:bT G Z nv) (h2:nv.length=n*s) (hn0:n≠0) (hone:Z.all AV.one=true) (hsv:VR G sv svv) (S:kL keep (fV keep H s sv) s b sv n Z=some (c,H')) :
 ∃v w' G',(Builtin.append_ #[t,u] ty #[svv,xv]).run P w=.ok v w'/\VR G' c v/\Step B H.next G w H' w' G':=by
 have hnl:Z.length=n*s:=by rw[h1.1,h2]
 obtain⟨zv,hzr,hzv⟩:=vZ hz;have hzs:zv.cells.size=s:=by have:=(hzv G).1;rw[hzl]at this;simpa using this.symm
 have ht:=Qs h keep s sv
 suffices hgoal:∃v w' G',(Builtin.append_ #[t,u] ty #[svv,xv]).run P w=.ok v w'/\VR G' c v/\Step B (fV keep H s sv).next G w H' w' G' by
  obtain⟨v,w',G',g1,g2,g3⟩:=hgoal;exact⟨v,w',G',g1,g2,ht.trans g3⟩
 replace h:=ht.r;clear ht;generalize fV keep H s sv=H at S h⊢;unfold kL at S;split at S
 ·-- onto nil
  split at S
  .rename_i F;simp only[cC]at S;obtain⟨rfl,rfl⟩:=S;cases hsv;have Y:=hA.new hzr (a:=none) (len:=0) (cap:=0) (ov:=[]) aa (by simpa using F.1) (by simpa using F.2) (by simp[Builtin.firstCells]);have m:=Av (h.heap (w':=w.drew) rfl) h1 (Builtin.zeroCells zv.cells (grownCap w (0+n) 0 e-(0+n))).toList e;have o:=grownCap_ge w (0+n) 0 e;refine⟨_,_,_,Y,?_,m.ed⟩;rw[bR]at o⊢;refine .sl (rS _ _ _) o ?_;rw[AJ,hzs,h2];have:grownCap w n 0 e*s=n*s+(grownCap w n 0 e-n)*s:=Dr;simp;omega
  .simp at S
 ·-- onto a row of its own
  rename_i r off len zz;split at S
  .rename_i cs imm hg;split at S
   .rename_i hcond2;obtain⟨hr1,hr2,hend,rfl,himm⟩:=hcond2;cases hsv with
    |sl hr hlc hcx=>
     rename_i A O x0 cap;have hHolds:=h.cells _ _ _ _ _ _ _ hr hg;have hex:=h.ext _ _ _ _ _ _ _ hr hg;simp only[eQ]at hex;have hoff:off<=cs.length:=aa;obtain⟨ov,o1,o2,o3⟩:=hHolds.e9 (P:=P) (off:=off) (s:=zz) (len:=len) hend (cap:=cap)
     have K:r≠H.next:=fun e=>by have:=h.di _ _ hr;omega
     by_cases M:len+n<=cap
     ·-- in its room
      have Y:=hA.fit (a:=some ⟨A,O+off,none⟩) M;simp only[]at Y;rw[mI,gU,hend]at Y;have hcap:(len+n)*zz<=cap*zz:=vV _ M;rw[nK]at hcap;cases keep with
      |false=>
       simp only[dg,bH,cC]at S;obtain⟨rfl,rfl⟩:=S;obtain⟨w',hw,U⟩:=Dz P hr cs.length Z nv cs 0 H w h hg h1 (h1.b0 hone) aa aa x5 aI;rw[hw]at Y;simp only[fd]at Y;rw[sZ,Hh]at U;have J:=Hi U.r (r:=r) (cs:=cs++Z) (imm:=imm) hr iG (off:=off) ce;refine⟨_,w',_,Y,?_,(U.trans J).congr rfl fun k _=>?_⟩
       .refine .sl (rS _ _ _) M ?_;omega
       .rw[aP,aP,gm,gm,aO,AG hoff];simp only[tc,bG];by_cases C:k=H.next
        .simp only[C,bw]
        .by_cases e2:k=r
         .simp only[e2,bw]
         .simp only[C,e2,bH]
      |true=>
       simp only[bw,cC]at S;obtain⟨rfl,rfl⟩:=S;have V:=yd h hr hg (n:=cs.length) himm (aT _) true (fun _=>rfl);obtain⟨w',hw,U⟩:=Dz P (G:=G.ao w A O cs.length) (r:=r) (imm:=cs.length) (tip:=true) hr cs.length Z nv cs 0 _ w V.r iG (h1.mono V.ext) (h1.b0 hone) aa aa x5 aI;rw[hw]at Y;simp only[fd]at Y;rw[sZ,Hh]at U;have hgr:((H.set r (.cells cs cs.length true)).set r (.cells (cs++Z) cs.length true)).get r=some (.cells (cs++Z) cs.length true):=iG;have J:=Hi U.r (r:=r) (cs:=cs++Z) (imm:=cs.length) hr hgr (off:=off) ce;have hmid:=(V.trans U).trans J;have hrr:((G.ao w A O cs.length).add H.next (A,O+off,x0-off)).β r=some (A,O,x0):=by
        simp only[Gh.add];rw[ad K];exact hr
       have hnoMap:∀aw b1 o1 x1 es,((G.ao w A O cs.length).add H.next (A,O+off,x0-off)).β aw=some (b1,o1,x1) ->
        ((((H.set r (.cells cs cs.length true)).set r (.cells (cs++Z) cs.length true)).az r).alloc (.cells ((cs++Z).drop off) (cs.length-off) true)).get aw=some (.map es)->b1≠A:=fun aw b1 o1 x1 es g1 g2=>by
        rw[aP,gm,aO,aO]at g2;simp only[tc,bG]at g2;by_cases hne:aw=H.next
        .simp[hne]at g2
        .by_cases hne2:aw=r
         .simp[hne2]at g2
         .simp only[hne,hne2,bH]at g2;have g1':G.β aw=some (b1,o1,x1):=by simp only[Gh.add]at g1;rw[ad hne]at g1;exact g1
          exact h.aE aw b1 o1 x1 es r A O x0 g1' g2 hr (by rw[hg];rfl) hne2
       have hHolds':iU ((G.ao w A O cs.length).add H.next (A,O+off,x0-off)) w' A O cs:=fun j c hj=>by
        have hjl:j<cs.length:=(eu.1 hj).1;have h5:=U.r.cells r A O x0 _ _ _ hr hgr j c (by rw[lY hjl];exact hj);obtain⟨v,q1,q2⟩:=h5;exact⟨v,q1,q2.mono J.ext⟩
       have hFF:∀j,j<cs.length->∃v,((G.ao w A O cs.length).add H.next (A,O+off,x0-off)).F A (O+j)=some v:=fun j hj=>
        V.r.cu r A O x0 cs cs.length true hr iG j hj hj
       have hrev:=P2 hmid.r hrr (h.bL _ _ _ _ _ _ _ hr hg) hHolds' hFF hnoMap;refine⟨_,w',_,Y,?_,(hmid.trans hrev).congr rfl fun k _=>?_⟩
       .refine .sl (rS _ _ _) M ?_;omega
       .rw[aO,aP,aP,gm,aO,aO,aO,AG hoff];simp only[tc,bG];have:cs.length-off=len*zz:=aa;rw[this];by_cases C:k=r
        .subst C;simp only[K,bw,bH]
        .simp only[C,bH]
     ·-- a Z row
      have hfit':cap<len+n:=aa;have Y:=hA.new hzr (a:=some ⟨A,O+off,none⟩) hfit' hr1 hr2 (o3 w.drew (fun _=>rfl));have o:=grownCap_ge w (len+n) cap e;have hlen2:(ov++nv).length=(len+n)*zz:=by rw[lA,o2,h2,nK]
      have hcapx:grownCap w (len+n) cap e*zz=(ov++nv).length+(Builtin.zeroCells zv.cells (grownCap w (len+n) cap e-(len+n))).toList.length:=by
       rw[AJ,hzs,hlen2,<-nK];congr 1;omega
      have m:=(Av (h.heap (w':=w.drew) rfl) (o1.append h1) (Builtin.zeroCells zv.cells (grownCap w (len+n) cap e-(len+n))).toList e).ed;have hnn:∀(X:HB) (k:Nat),k≠H.next->(H.alloc X).get k=H.get k:=fun X k hk=>by rw[aP,ad hk]
      have I:∀p,(G.add H.next p).β H.next=some p:=fun p=>rS _ _ _
      have hlenX:(cs.drop off++Z).length=(len+n)*zz:=by rw[lA,jP,hnl,nK];omega
      cases keep with
      |false=>
       simp only[dg,bH,cC]at S;obtain⟨rfl,rfl⟩:=S;have hk:=m.r.az r;have hgx:((H.alloc (.cells (cs.drop off++Z) 0 true)).az r).get H.next=some (.cells (cs.drop off++Z) 0 true):=by
        rw[gm,ad (Ne.symm K),aP,au rfl]
       have V:=yd hk (I _) hgx (n:=imm-off) (dx _) (by rw[hlenX,nK];omega) true (fun _=>rfl);have hst2:Step B H.next G w _ _ _:=⟨hk,m.ext,m.fr,m.new,m.dn,m.mono,m.ef⟩
       refine⟨_,_,_,Y,?_,(hst2.trans V).congr rfl fun k _=>?_⟩
       .exact .sl (I _) o aa
       .rw[aO,aP,gm,gm,aP];simp only[tc];by_cases C:k=H.next
        .simp only[C,bw]
        .simp only[C,bH]
      |true=>
       simp only[bw,cC]at S;obtain⟨rfl,rfl⟩:=S;have hgx:(H.alloc (.cells (cs.drop off++Z) 0 true)).get H.next=some (.cells (cs.drop off++Z) 0 true):=fN
       have V:=yd m.r (I _) hgx (n:=len*zz) (dx _) (by rw[hlenX,nK];omega) true (fun _=>rfl);have hgr:((H.alloc (.cells (cs.drop off++Z) 0 true)).set H.next (.cells (cs.drop off++Z) (len*zz) true)).get r=some (.cells cs imm true):=by
        rw[aO,ad K,hnn _ _ K];exact hg
       have hice2:=yd V.r (r:=r) (by
        show(G.add H.next _).β r=_;simp only[Gh.add];rw[ad K];exact hr) hgr (n:=cs.length) himm (aT _) false aI
       refine⟨_,_,_,Y,?_,((m.trans V).trans hice2).congr rfl fun k _=>?_⟩
       .exact .sl (I _) o aa
       .rw[aO,aO,aP,aP,aO];simp only[bG];by_cases C:k=H.next
        .have e3:¬H.next=r:=fun e=>K e.symm
         simp only[C,e3,bw,bH]
        .simp only[C,bH]
   .simp at S
  .simp at S
 .simp at S
theorem Qt{ty:TypeId}{k k':IntKind}(hd:P.underlying t=some (.slice e))(hu:P.underlying u=some (.int k'))(hs:bD P e=some s)(hb:cL P e=some b)
  (O:∀w,(zeroValue e).run P w=.ok Z w) (K:Z.cells.size=s)  (h1:n*b<=dd) (h2:n<=dd) :
 zdu P w t u ty e s b (.int k (n:Int)) n (Builtin.zeroCells Z.cells n).toList:=by
 obtain⟨i,hi,F⟩:∃i,P.info? e=some i/\i.bytes=b:=by simpa [cL,x7]using hb
 have hm:dd=70368744177664:=rfl;rw[hm]at h1 h2;have U:IntKind.i64.wrap (n:Int)=n:=by
  unfold IntKind.wrap;simp[IntKind.signed,IntKind.bits];omega
 have Y:¬((n:Int)<0):=aa;have I:¬(281474976710656<(n:Int)*(b:Int)):=by
  have:(n:Int)*(b:Int)=((n*b:Nat):Int):=by push_cast;rfl
  omega
 have m:n*s=0->(Builtin.zeroCells Z.cells n).toList=[]:=fun e=>AH (by rw[AJ,K,e]);have o:∀w,(asInt (.int k (n:Int))).run P w=.ok (n:Int) w:=fun w=>by simp[asInt,asIntOf]
 refine⟨fun{a j S} C=>?_,fun{J} A {a j S ov} C M V ho=>?_⟩
 .simp only[Builtin.append_];simp[dQ hd,dQ hu,jR hs,td hi,F,o,U,Y,I,O];rw[au C];by_cases e:n*s=0
  .rw[au e,m e];cases a<;>simp
  .rw[ad e];cases a<;>simp
 .obtain rfl:J=Z:=by
   have:=(A w).symm.trans (O w);simpa using this
  rw[hm]at M V;have z:¬(281474976710656<Builtin.nextslicecap (j+n) S*b):=by
   have:=growslice_fits C (bytes:=b) aa;omega
  have h63:¬(9223372036854775807<((j:Int)+(n:Int))):=aa;have h1':¬(j+n<=S):=aa;simp only[Builtin.append_];simp[dQ hd,dQ hu,jR hs,td hi,F,o,U,Y,I,h1',h63,z,Question.forced,ho,O,newRow,grownCap];by_cases e0:n*s=0
  .rw[au e0,m e0]
   congr 3
   apply lZ;simp
  .rw[ad e0]
   congr 3
   apply lZ;simp
theorem HI{z:qm}(h:z.all AV.one=true):∀n,(jy z n).all AV.one=true
 |0=>rfl
 |n+1=>by rw[jy,wa,h,HI h n];rfl
def Qu(h:R B H w G){keep:Bool}{ty:TypeId}{sv:AV}{xv:Value}(O:VR G sv Z)(hx:VR G x xv)(V:dh P keep H t u sv x=some (c,H')):
 ∃v w' G',(Builtin.append_ #[t,u] ty #[Z,xv]).run P w=.ok v w'/\VR G' c v/\Step B H.next G w H' w' G':=by
 unfold dh at V;split at V
 .rename_i e hd;split at V
  .rename_i s b z A hb hz;split at V
   .rename_i xG S U;obtain⟨du,j,K⟩:=HG S;obtain⟨nv,h1,h2,h3,h4⟩:=DJ (P:=P) h hx U;have hnv:nv=[]:=by rw[tf]at h2;exact List.length_eq_zero_iff.1 h2
    subst hnv;have F:∀a len cap,Z=.slice a len cap->len<=cap->(Builtin.append_ #[t,u] ty #[Z,xv]).run P w=.ok Z w:=fun a len cap e Y=>by
     subst e;rw[HF hd j K A (n:=0) aa (h3 w) (h4 w (fun _=>rfl))];cases a<;>simp[storeCells]
    split at V
    .simp only[cC]at V;obtain⟨rfl,rfl⟩:=V;refine⟨Z,w,G,?_,O,jD h⟩;cases O with
     |sl hr hl hc=>exact F _ _ _ rfl hl
    .simp only[cC]at V;obtain⟨rfl,rfl⟩:=V;refine⟨Z,w,G,?_,O,jD h⟩;cases O with
     |ai vs hz hF hv hc=>exact F _ _ _ rfl hc
     |cb a cap=>exact F _ _ _ rfl (dx _)
    .simp only[cC]at V;obtain⟨rfl,rfl⟩:=V;refine⟨Z,w,G,?_,O,jD h⟩;cases O with
     |ab=>exact F _ _ _ rfl (aT _)
    .simp at V
   .rename_i n new hnz S U;obtain⟨du,j,K⟩:=HG S;obtain⟨nv,h1,h2,h3,h4⟩:=DJ (P:=P) h hx U;have hn0:n≠0:=fun e=>by subst e;exact hnz rfl
    split at V
    .rename_i C;exact HH h A hb hz C.2 ⟨fun Y=>HF hd j K A Y (h3 w) (h4 w (fun _=>rfl)),fun{o} M {a len cap ov} Y hr1 hr2 ho=>Qr hd j K A hb M Y hr1 hr2 (h3 w) (h4 w.drew (fun _=>rfl)) ho⟩ h1 h2 hn0 C.1 O V
    .simp at V
   .unfold vO at V;split at V
    .rename_i k' k m j _ _;split at V
     .rename_i C;obtain⟨hc1,hc2,J,hc4⟩:=C;obtain⟨o,M,hzv⟩:=vZ hz;have I:o.cells.size=s:=by have:=(hzv G).1;rw[J]at this;simpa using this.symm
      cases hx;have hA:=Qt (P:=P) (w:=w) (t:=t) (ty:=ty) (k:=k) hd j A hb M I hc1 hc2;have hzn:∀n,bT G (jy z n) (Builtin.zeroCells o.cells n).toList:=fun n=>by
       have:=DF (hzv G) n;unfold Builtin.zeroCells;have e:z.length=o.cells.size:=by rw[J,I]
       rw[e]at this;exact this
      split at V
      .have hz0:(Builtin.zeroCells o.cells 0).toList=[]:=by simp[Builtin.zeroCells]
       have F:∀a len cap,Z=.slice a len cap->len<=cap->(Builtin.append_ #[t,u] ty #[Z,.int k (Int.ofNat 0)]).run P w=.ok Z w:=fun a len cap e Y=>by
        subst e;have:=hA.fit (a:=a) (len:=len) (cap:=cap) aa;rw[hz0]at this;refine Eq.trans this ?_;cases a<;>simp[storeCells]
       split at V
       .simp only[cC]at V;obtain⟨rfl,rfl⟩:=V;refine⟨Z,w,G,?_,O,jD h⟩;cases O with
        |sl hr hl hc=>exact F _ _ _ rfl hl
       .simp only[cC]at V;obtain⟨rfl,rfl⟩:=V;refine⟨Z,w,G,?_,O,jD h⟩;cases O with
        |ai vs hz hF hv hc=>exact F _ _ _ rfl hc
        |cb a cap=>exact F _ _ _ rfl (dx _)
       .simp only[cC]at V;obtain⟨rfl,rfl⟩:=V;refine⟨Z,w,G,?_,O,jD h⟩;cases O with
        |ab=>exact F _ _ _ rfl (aT _)
       .simp at V
      .rename_i m;exact HH h A hb hz J hA (hzn _) (by rw[AJ,I]) aa (HI hc4 _) O V
     .simp at V
    .simp at V
  .simp at V
 .simp at V
end
section
variable {P:Program} {B:Bs} {G:Gh} {H H':Hp} {w:World}
def Qv(J:ByteArray):J.data.toList.length=J.size:=HE
def HJ(h:R B H w G){m:AV}{mv:Value}{U:qF}(M:VR G m mv)(C:sP H m=some U):
 (mv=.map none/\U=[])\/∃r b o x ms K,m=.map r/\mv=.map (some b)/\G.β r=some (b,o,x)/\H.get r=some (.map U)/\w.heap[b]?=some (.map ms K)/\rP G U ms.toList:=by
 unfold sP at C;split at C
 .simp only[aH]at C;subst C;cases M;exact .inl ⟨rfl,rfl⟩
 .rename_i r;split at C
  .rename_i Y Z;simp only[aH]at C;subst C;cases M with
   |map hr=>
    rename_i b o x;obtain⟨ms,K,j,V⟩:=h.map r b o x _ hr Z;exact .inr ⟨r,b,o,x,ms,K,rfl,rfl,hr,Z,j,V⟩
  .simp at C
 .simp at C
def yh{ms:Array MapEntry}(h:w.heap[b]?=some (.map ms K)):(getObj b).run P w=.ok (.map ms K) w:=by
 simp[getObj,Sem.run,h]
def Qw(h:R B H w G){ty:TypeId}(O:VR G x F)(K:gj P H t x=some c):∃v,(Builtin.len_ #[t] ty #[F]).run P w=.ok v w/\VR G c v:=by
 unfold gj at K;split at K
 .rename_i hd;split at K
  .simp only[aH]at K;subst K;cases O with
   |ae I _ S=>
    subst S;refine⟨_,?_,.int _ _⟩;rw[Qv];simp[Builtin.len_,dQ hd,goInt]
  .simp at K
 .rename_i e hd;split at K
  .simp only[aH]at K;subst K;cases O;exact⟨_,ye,.int _ _⟩
  .simp only[aH]at K;subst K;cases O
   .exact⟨_,ye,.int _ _⟩
   .exact⟨_,ye,.int _ _⟩
  .simp only[aH]at K;subst K;cases O;exact⟨_,ye,.int _ _⟩
  .simp at K
 .rename_i n e hd;simp only[aH]at K;subst K;refine⟨.int .i64 n,?_,.int _ _⟩;simp only[Builtin.len_];simp[dQ hd,goInt]
 .rename_i A e hd;split at K
  .rename_i U C;simp only[aH]at K;subst K;rcases HJ h O C with⟨rfl,rfl⟩|⟨r,b,o,V,ms,Z,rfl,rfl,hr,M,J,Y⟩
   .exact⟨_,ye,.int _ _⟩
   .refine⟨.int .i64 U.length,?_,.int _ _⟩;have:ms.size=U.length:=by have:=Y.1;simpa using this.symm
    simp[Builtin.len_,dQ hd,yh J,goInt,this]
  .simp at K
 .simp at K
def Qx{K:Bool}(O:VR G x F)(o:VR G y m)(h:mm K x y=some c):∃v,((if K then Builtin.max2 else Builtin.min2) F m).run P w=.ok v w/\VR G c v:=by
 unfold mm at h;split at h
 .simp only[aH]at h;subst h;cases O;cases o;cases K
  .refine⟨_,rfl,?_⟩;simp only[dg,bH,kR];exact .int _ _
  .refine⟨_,rfl,?_⟩;simp only[bw,kR];exact .int _ _
 .simp at h
theorem DK{K:Bool}:∀{V:qm}{C:qw}{x c:AV}{F:Value},VR G x F->bT G V C->sS K x V=some c ->
 ∃v,(C.foldlM (if K then Builtin.max2 else Builtin.min2) F).run P w=.ok v w/\VR G c v
 |[],C,x,c,F,hx,hxs,h=>by
  simp only[sS,aH]at h;subst h;have:C=[]:=by have:=hxs.1;simpa using this.symm
  subst this;exact⟨F,rfl,hx⟩
 |y::ys,[],_,_,_,_,hxs,_=>by have:=hxs.1;simp at this
 |y::ys,yv::yvs,x,c,F,hx,hxs,h=>by
  obtain⟨j,m⟩:=hxs.aR;simp only[sS]at h;split at h
  .rename_i z Y;obtain⟨U,o,Z⟩:=Qx (P:=P) (w:=w) hx j Y;obtain⟨v,k1,k2⟩:=DK Z m h;exact⟨v,by rw[List.foldlM_cons,eY,o];exact k1,k2⟩
  .simp at h
def DL(h:lz P t=some d):P.underlying t=some d/\((∃k,d=.int k)\/d=.string\/d=.bool):=by
 unfold lz at h;split at h<;>simp only[aH,reduceCtorEq]at h<;>subst h
 .rename_i k hd;exact⟨hd,.inl ⟨k,rfl⟩⟩
 .rename_i hd;exact⟨hd,.inr (.inl rfl)⟩
 .rename_i hd;exact⟨hd,.inr (.inr rfl)⟩
def DM{r:Bool}(O:VR G x F)(o:VR G y m)(h:ly d x y=some r):Instr.sameNow d F m=some r:=by
 unfold ly at h;split at h
 .split at h
  .cases O;cases o;exact h
  .simp at h
 .split at h
  .cases O with
   |ae a _ V=>cases o with
    |ae b _ z=>
     subst V z;simp only[aH]at h;subst h;simp only[Instr.sameNow,aH];show(a.data == b.data)=(a.data.toList == b.data.toList);rw[Dt];simp only[mG,Array.toList_inj]
  .simp at h
 .split at h
  .cases O;cases o;exact h
  .simp at h
 .simp at h
theorem DN{d:TypeDesc}{k:AV}{kv:Value}(o:VR G k kv):∀{U:qF}{ms:List MapEntry}{i:Nat},rP G U ms ->
 (ef d k U i=some none->Instr.findNow d kv ms i=some none) /\
 (∀j v,ef d k U i=some (some (j,v))->∃k' m,U[j-i]?=some (k',v)/\ms[j-i]?=some m/\i<=j/\ly d k k'=some true/\Instr.findNow d kv ms i=some (some (j,m.val)))
 |[],ms,i,he=>by
  have:ms=[]:=by have:=he.1;simpa using this.symm
  subst this;exact⟨fun _=>rfl,fun j v h=>by simp[ef]at h⟩
 |e::U,[],i,he=>by have:=he.1;simp at this
 |(k',C)::U,m::ms,i,he=>by
  obtain⟨Y,A⟩:=he.2 0 (k',C) m rfl rfl;have F:rP G U ms:=⟨by simpa using he.1,fun j a b S z=>he.2 (j+1) a b (by simpa using S) (by simpa using z)⟩;obtain⟨aw,a1⟩:=DN (d:=d) o (i:=i+1) F;constructor
  .intro h;simp only[ef]at h;split at h
   .simp at h
   .rename_i Z;have:=DM o Y Z;simp only[Instr.findNow,this];exact aw h
   .simp at h
  .intro j v h;simp only[ef]at h;split at h
   .rename_i Z;simp only[cC]at h;obtain⟨rfl,rfl⟩:=h;have:=DM o Y Z;exact⟨k',m,aI,aI,aT _,Z,by simp only[Instr.findNow,this]⟩
   .rename_i Z;have:=DM o Y Z;obtain⟨k2,O,M,K,g3,J,I⟩:=a1 j v h;have V:j-i=(j-(i+1))+1:=aa;refine⟨k2,O,by rw[V];simpa using M,by rw[V];simpa using K,aa,J,?_⟩;simp only[Instr.findNow,this];exact I
   .simp at h
theorem Qy(n:Nat)(hd:lz P A=some d)(e:Bool)(kv:Value):(Instr.checkKey e (n+1) A kv).run P w=.ok () w:=by
 obtain⟨j,m⟩:=DL hd;simp only[Instr.checkKey,eY,dQ j,fd];rcases m with⟨k,rfl⟩|rfl|rfl<;>rfl
def yi(hd:lz P A=some d)(e:Bool)(kv:Value):(Instr.checkKey e 10000 A kv).run P w=.ok () w:=Qy 9999 hd e kv
def yj(hd:P.underlying A=some d){kv:Value}{ms:List MapEntry}{r:Option (Nat×Value)}(h:Instr.findNow d kv ms 0=some r):(Instr.findKey A kv ms).run P w=.ok r w:=by
 simp[Instr.findKey,dQ hd,h]
def Qz(hd:P.underlying t=some (.map A e))(o:lz P A=some d){mv kv:Value}{ok:Bool}{ms:Array MapEntry}
 (Z:(mv=.map none/\ms=#[])\/∃b K,mv=.map (some b)/\w.heap[b]?=some (.map ms K)) :
 (∀j v,Instr.findNow d kv ms.toList 0=some (some (j,v))->(Instr.lookup t mv kv ok).run P w=.ok (if ok then .tuple #[v,.bool true]else v) w) /\
 (∀C,(zeroValue e).run P w=.ok C w->Instr.findNow d kv ms.toList 0=some none->(Instr.lookup t mv kv ok).run P w=.ok (if ok then .tuple #[C,.bool false]else C) w):=by
 have M:=(DL o).1;rcases Z with⟨rfl,rfl⟩|⟨b,K,rfl,J⟩
 .refine⟨fun j v m=>by simp[Instr.findNow]at m,fun C Y m=>?_⟩;have O:=yj (P:=P) (w:=w) M m;simp only[Instr.lookup,eY,dQ hd,fd,jQ,yi o,O,Y]
 .refine⟨fun j v m=>?_,fun C Y m=>?_⟩
  .have O:=yj (P:=P) (w:=w) M m;simp only[Instr.lookup,eY,dQ hd,fd,yh J,jQ,yi o,O]
  .have O:=yj (P:=P) (w:=w) M m;simp only[Instr.lookup,eY,dQ hd,fd,yh J,jQ,yi o,O,Y]
def QA(h:R B H w G){m:AV}{mv kv:Value}{ok:Bool}(I:VR G m mv)(F:VR G k kv)(Z:gT P H t m k ok=some c):
 ∃v,(Instr.lookup t mv kv ok).run P w=.ok v w/\VR G c v:=by
 unfold gT at Z;split at Z
 .rename_i kt e hd;split at Z
  .rename_i A J O S;obtain⟨ms,V,M⟩:∃ms:Array MapEntry,((mv=.map none/\ms=#[])\/∃b K,mv=.map (some b)/\w.heap[b]?=some (.map ms K))/\rP G A ms.toList:=by
    rcases HJ h I O with⟨rfl,rfl⟩|⟨r,b,o,xx,ms,K,rfl,rfl,hr,hg,hw,he⟩
    .exact⟨#[],.inl ⟨rfl,rfl⟩,rfl,aI⟩
    .exact⟨ms,.inr ⟨b,K,rfl,hw⟩,he⟩
   obtain⟨z,f2⟩:=DN (d:=J) F (i:=0) M;obtain⟨aw,a1⟩:=Qz (kv:=kv) (ok:=ok) hd S V;split at Z
   .rename_i j v Y;simp only[aH]at Z;subst Z;obtain⟨k',m',g1,g2,_,_,g5⟩:=f2 j v Y;have U:=(M.2 _ _ _ g1 g2).2;refine⟨_,aw _ _ g5,?_⟩;cases ok
    .exact U
    .exact .aW (vs:=[m'.val,.bool true]) rfl (gO U (gO (.bool true) (kQ _))).2
   .rename_i Y;split at Z
    .rename_i v U;simp only[aH]at Z;subst Z;obtain⟨zv,z1,C⟩:=P3 U;refine⟨_,a1 _ (z1 w) (z Y),?_⟩;cases ok
     .exact C G
     .exact .aW (vs:=[zv,.bool false]) rfl (gO (C G) (gO (.bool false) (kQ _))).2
    .simp at Z
   .simp at Z
  .simp at Z
 .simp at Z
end
section
variable {P:Program} {B:Bs} {G:Gh} {H H':Hp} {w:World}
def HK(h:R B H w G){r o x:Nat}{es K:qF}{ms':Array MapEntry}{clock':Nat}(hr:G.β r=some (b,o,x))(hg:H.get r=some (.map es))(he:rP G K ms'.toList):
 Step B H.next G w (H.set r (.map K)) {w with heap:=w.heap.setIfInBounds b (.map ms' clock') } G:=by
 obtain⟨ms,clock,hw,_⟩:=h.map r b o x es hr hg;have hb:b<w.heap.size:=(h.lt r b o x hr).2
 let w':World:={w with heap:=w.heap.setIfInBounds b (.map ms' clock') }
 have U:∀k,k≠b->w'.heap[k]?=w.heap[k]?:=fun k Z=>by
  show(w.heap.setIfInBounds b _)[k]?=_;rw[uz,ad (Ne.symm Z)]
 have hheapb:w'.heap[b]?=some (.map ms' clock'):=by
  show(w.heap.setIfInBounds b _)[b]?=_;simp[hb]
 have S:∀b' M v,w.cell? ⟨b',M,none⟩=some v->b'≠b:=fun b' M v hc e=>by
  subst e;unfold World.cell? at hc;rw[hw]at hc;simp at hc
 have Y:∀b' M v,w.cell? ⟨b',M,none⟩=some v->w'.cell? ⟨b',M,none⟩=some v:=fun b' M v hc=>by
  rw[World.cell?_of_block (w:=w) (U b' (S b' M v hc))];exact hc
 have F:∀k,k≠r->(H.set r (.map K)).get k=H.get k:=fun k Z=>by rw[aO,ad Z]
 have m:(H.set r (.map K)).get r=some (.map K):=iG;refine⟨?_,vW _,⟨rfl,rfl,rfl,aI,fun k Z hn=>U k (fun e=>hn r b o x hr e.symm)⟩,uD _ _,fun _ _ h=>.inl h,aT _,fun _ _ _ h=>.inl h⟩;exact{
  bY:=by have:=h.bY;simpa using this
  di:=h.di
  lt:=fun r b o x hr=>by have:=h.lt r b o x hr;simpa using this
  cells:=fun k b' M V cs imm I Z hc=>by
   by_cases e:k=r
   .subst e;rw[m]at hc;simp at hc
   .rw[F k e]at hc;intro j c hj;obtain⟨v,h1,h2⟩:=h.cells k b' M V cs imm I Z hc j c hj;exact⟨v,Y _ _ _ h1,h2⟩
  cu:=fun k b' M V cs imm I Z hc=>by
   by_cases e:k=r
   .subst e;rw[m]at hc;simp at hc
   .rw[F k e]at hc;exact h.cu k b' M V cs imm I Z hc
  ext:=fun k b' M V cs imm I Z hc=>by
   by_cases e:k=r
   .subst e;rw[m]at hc;simp at hc
   .rw[F k e]at hc;exact h.ext k b' M V cs imm I Z hc
  bL:=fun k b' M V cs imm I Z hc=>by
   by_cases e:k=r
   .subst e;rw[m]at hc;simp at hc
   .rw[F k e]at hc;exact h.bL k b' M V cs imm I Z hc
  bu:=fun k b' M V cs imm I Z hc j hj hjl=>by
   by_cases e:k=r
   .subst e;rw[m]at hc;simp at hc
   .rw[F k e]at hc;obtain⟨⟨v,h1⟩,h2,h3⟩:=h.bu k b' M V cs imm I Z hc j hj hjl;refine⟨⟨v,Y _ _ _ h1⟩,?_,h3⟩;rw[World.frozen?_of_block (w:=w) (U b' (S _ _ _ h1))];exact h2
  apart:=fun k1 b1 o1 x1 cs1 imm1 tip1 k2 b2 o2 x2 cs2 imm2 tip2 J O C A=>by
   by_cases e1:k1=r
   .subst e1;rw[m]at O;simp at O
   .by_cases e2:k2=r
    .subst e2;rw[m]at A;simp at A
    .rw[F k1 e1]at O;rw[F k2 e2]at A;exact h.apart k1 b1 o1 x1 cs1 imm1 tip1 k2 b2 o2 x2 cs2 imm2 tip2 J O C A
  map:=fun k b' M V z Z hc=>by
   by_cases e:k=r
   .subst e;have hk':=Z;rw[hr]at hk';simp only[cC]at hk';obtain⟨rfl,rfl,rfl⟩:=hk';rw[m]at hc;simp only[aH,HB.map.injEq]at hc;subst hc;exact⟨ms',clock',hheapb,he⟩
   .rw[F k e]at hc;obtain⟨ms1,clock1,h1,h2⟩:=h.map k b' M V z Z hc;refine⟨ms1,clock1,?_,h2⟩;rw[U b' (fun eb=>h.aE k b' M V z r b o x Z hc hr (by rw[hg];rfl) e eb)];exact h1
  aE:=fun k1 b1 o1 x1 z k2 b2 o2 x2 J O C hs hne=>by
   have hs':(H.get k2).isSome:=by
    by_cases e2:k2=r
    .subst e2;rw[hg];rfl
    .rw[F k2 e2]at hs;exact hs
   by_cases e1:k1=r
   .subst e1;exact h.aE k1 b1 o1 x1 es k2 b2 o2 x2 J hg C hs' hne
   .rw[F k1 e1]at O;exact h.aE k1 b1 o1 x1 z k2 b2 o2 x2 J O C hs' hne
  dr:=fun b' M v hf=>Y _ _ _ (h.dr b' M v hf)
  val:=h.val
  eb:=h.eb}
def HL{ms ms':Array MapEntry}{clock':Nat}(h:w.heap[b]?=some (.map ms K)):
 (setObj b (.map ms' clock')).run P w=.ok () {w with heap:=w.heap.setIfInBounds b (.map ms' clock') }:=by
 simp[setObj,Sem.run,h]
def QB(n:Nat)(O:VR G x F)(o:VR G y m)(h:ly d x y=some true):Instr.sameBits n m F=true:=by
 unfold ly at h;split at h
 .split at h
  .split at h
   .rename_i e;subst e;cases O;cases o;simp only[aH,mG]at h;subst h;cases n<;>simp[Instr.sameBits]
   .simp at h
  .simp at h
 .split at h
  .cases O with
   |ae a _ V=>cases o with
    |ae b _ z=>
     subst V z;simp only[aH,mG]at h;have Z:(b == a)=true:=by
      show(b.data == a.data)=true;simp only[mG];exact(lZ h).symm
     cases n<;>simp[Instr.sameBits,Z]
  .simp at h
 .split at h
  .cases O;cases o;simp only[aH,mG]at h;subst h;cases n<;>simp[Instr.sameBits]
  .simp at h
 .simp at h
theorem QC{V z:Value}(h:Instr.sameBits 10000 V z=true):(Instr.keyThatStays V z).run P w=.ok z w:=by
 unfold Instr.keyThatStays;rw[au h];rfl
def QD(h:R B H w G){m:AV}{mv kv I:Value}(hm:VR G m mv)(C:VR G k kv)(hv:VR G v I)(Z:nD P H t m k v=some H'):
 ∃w',(Instr.mapUpdate t mv kv I).run P w=.ok () w'/\Step B H.next G w H' w' G:=by
 unfold nD at Z;split at Z
 .rename_i kt e hd;split at Z
  .rename_i r J S;split at Z
   .rename_i es hg;cases hm with
    |map hr=>
     rename_i b o x;obtain⟨ms,K,A,Y⟩:=h.map r b o x es hr hg;obtain⟨f1,f2⟩:=DN (d:=J) C (i:=0) Y;have M:=(DL S).1;split at Z
     .rename_i j v0 hf;simp only[aH]at Z;subst Z;obtain⟨k',m',g1,g2,_,g4,g5⟩:=f2 j v0 hf;simp only[AF]at g1 g2;have hjl:j<ms.size:=by have:=(eu.1 g2).1;simpa using this
      have U:ms[j]?=some m':=by simpa using g2
      have z:=QB 10000 C (Y.2 j _ _ g1 g2).1 g4;have O:=yj (P:=P) (w:=w) M g5;refine⟨_,?_,HK h hr hg (ms':=ms.modify j fun e=>{e with key:=kv,val:=I}) (clock':=K) ?_⟩
      .simp only[Instr.mapUpdate,eY,dQ hd,fd,yh A,yi S,O,U,pI,bE,QC z,HL A]
      .refine⟨by have:=Y.1;simpa using this,fun i a c V hc=>?_⟩;rw[AI]at V;rw[uH,Array.getElem?_modify]at hc;by_cases e:j=i
       .subst e;rw[au rfl]at hc;rw[au rfl]at V;split at V
        .simp only[aH]at V;subst V;rw[U]at hc;simp only[iT]at hc;subst hc;exact⟨C,hv⟩
        .simp at V
       .rw[ad e]at V hc;exact Y.2 i a c V x3
     .rename_i hf;simp only[aH]at Z;subst Z;have O:=yj (P:=P) (w:=w) M (f1 hf);refine⟨_,?_,HK h hr hg (ms':=ms.push {key:=kv,val:=I,born:=K}) (clock':=K+1) ?_⟩
      .simp only[Instr.mapUpdate,eY,dQ hd,fd,yh A,yi S,O,HL A]
      .refine⟨by have:=Y.1;simpa using this,fun i a c V hc=>?_⟩;rw[Array.toList_push]at hc;have hl:=Y.1;by_cases hi:i<es.length
       .rw[lY hi]at V;rw[lY aa]at hc;exact Y.2 i a c V hc
       .rw[nJ aa]at V;rw[nJ aa]at hc;rw[<-hl]at hc;cases F:i-es.length with
        |zero=>
         rw[F]at V hc;simp at V hc;subst V hc;exact⟨C,hv⟩
        |succ n=>rw[F]at V;simp at V
     .simp at Z
   .simp at Z
  .simp at Z
 .simp at Z
theorem HM:∀{cs:qm}{bs:qr}{vs:qw},xM cs=some bs->bT G cs vs->∃ns:qp,vs=ns.map (Value.int .u8)/\bs=ns.map fun n=>UInt8.ofNat n.toNat
 |[],bs,vs,h,hv=>by
  simp only[xM,aH]at h;subst h;have:vs=[]:=by have:=hv.1;simpa using this.symm
  subst this;exact⟨[],rfl,rfl⟩
 |c::cs,bs,[],h,hv=>by have:=hv.1;simp at this
 |c::cs,bs,v::vs,h,hv=>by
  obtain⟨j,m⟩:=hv.aR;unfold xM at h;split at h
  .rename_i e;simp at e
  .rename_i n C e;simp only[ew]at e;obtain⟨rfl,rfl⟩:=e;split at h
   .rename_i U z;simp only[aH]at h;subst h;obtain⟨ns,rfl,rfl⟩:=HM z m;cases j;exact⟨n::ns,rfl,rfl⟩
   .simp at h
  .simp at h
def QE(M:qp):∀s:ByteArray,(M.foldl (fun r n=>r.push (UInt8.ofNat n.toNat)) s).data.toList=s.data.toList++M.map fun n=>UInt8.ofNat n.toNat:=by
 induction M with
 |nil=>intro s;simp
 |cons n M ih=>intro s;rw[List.foldl_cons,ih];simp[ByteArray.push]
def QF(h:R B H w G){U z:TypeId}(O:VR G x F)(K:lV P H U z x=some c):∃v,(convert U z F).run P w=.ok v w/\VR G c v:=by
 unfold lV at K;split at K
 .rename_i e S hd;split at K
  .rename_i Y;split at K
   .rename_i n cs C;split at K
    .rename_i bs M;obtain⟨nv,h1,h2,A,h4⟩:=DJ (P:=P) h O C;obtain⟨ns,V,rfl⟩:=HM M h1;split at K
     .simp only[aH]at K;subst K;cases O with
      |sl hr hl hcx=>
       rename_i b o xx I;have Z:=A w;simp[Builtin.lenOf]at Z;subst Z;have m:=h4 w (fun _=>rfl);simp only[Builtin.firstCells,jS]at m;rw[V]at m;refine⟨_,by rw[run_convert_bytes_string w U z e _ _ _ S Y hd,run_bytesToString w _ _ _ ns m],.ae _ _ ?_⟩;rw[QE];rfl
     .simp only[aH]at K;subst K;cases O;have Z:=A w;simp[Builtin.lenOf]at Z;have:ns=[]:=by
       have e1:(ns.map (Value.int .u8)).length=0:=by rw[<-V,h2,<-Z]
       simpa using e1
      subst this;refine⟨.string .empty,?_,.ae _ _ rfl⟩;rw[run_convert_bytes_string w U z e _ _ _ S Y hd];rfl
     .simp at K
    .simp at K
   .simp at K
  .simp at K
 .rename_i ds k j S hd;split at K
  .simp only[aH]at K;subst K;cases O;refine⟨_,?_,.int _ _⟩;simp[convert,dQ S,dQ hd,Conv.intToInt]
  .simp only[aH]at K;subst K;cases O;rename_i k0 e0;refine⟨_,?_,.sx _ _⟩;simp[convert,dQ S,dQ hd,Conv.intToInt,Sx.eval]
  .simp at K
 .rename_i j S hd;split at K
  .simp only[aH]at K;subst K;have J:=O;cases O with
   |ae sv _ Y=>
    refine⟨.string sv,?_,J⟩;simp[convert,dQ S,dQ hd]
  .simp at K
 .simp at K
end
section
variable {P:Program} {B:Bs} {G:Gh} {H H':Hp} {w:World}
def uI(G:Gh)(E:aD)(a:Act)(xs:Array Operand):Prop:=∀x∈xs,∀c,aV E x=some c->VR G c (a.eval x)
theorem AK{E:aD}{a:Act}:∀{V:List Operand}{cs:qm},(∀x∈V,∀c,aV E x=some c->VR G c (a.eval x))->io E V=some cs->bT G cs (V.map a.eval)
 |[],cs,_,h=>by
  simp only[io,aH]at h;subst h;exact kQ G
 |x::V,cs,hk,h=>by
  simp only[io]at h;split at h
  .rename_i v vs U S;simp only[aH]at h;subst h;exact gO (hk x aI v U) (AK (fun y hy=>hk y (by simp[hy])) S)
  .simp at h
def kS{s:Sem Value}(h:R B H w G)(S:∃v,s.run P w=.ok v w/\VR G c v):uF P B H G w (do pure (.value (<-s))) c H:=by
 obtain⟨v,j,m⟩:=S;exact⟨.value v,w,G,v,by simp[j],.inl rfl,m,jD h⟩
def wc{s:Sem Value}(S:∃v A m,s.run P w=.ok v A/\VR m c v/\Step B H.next G w H' A m):uF P B H G w (do pure (.value (<-s))) c H':=by
 obtain⟨v,A,m,j,Z,Y⟩:=S;exact⟨.value v,A,m,v,by simp[j],.inl rfl,Z,Y⟩
def HN{s:Sem Unit}(S:∃A,s.run P w=.ok () A/\Step B H.next G w H' A G):uF P B H G w (do s;pure .skip) ea H':=by
 obtain⟨A,j,m⟩:=S;exact⟨.skip,A,G,undef,by simp[j],.inr ⟨rfl,rfl⟩,yb G,m⟩
def HO{x:Option Operand}{c:qv}(o:∀y∈x.toArray,∀c,aV E y=some c->VR G c (a.eval y))(h:jM E x=some c):uG G c (x.map a.eval):=by
 unfold jM at h;split at h
 .simp only[aH]at h;subst h;exact trivial
 .rename_i y;split at h
  .rename_i v U;simp only[aH]at h;subst h;exact o y aI v U
  .simp at h
def QG(U:sV o=true)(V:uI G E a o.op.operands)(j:dv P D E H o.op=some (c,H')):oO P G w (execOp a.eval o) Next.value c H H':=by
 obtain⟨J,I,ty,F,Z,guard⟩:=o;simp only[]at j V;cases I<;>simp only[sV,gJ,dg]at U
 case alloc t=>
  simp only[dv]at j;unfold xN at j;split at j
  .rename_i z S;simp only[cC]at j;obtain⟨rfl,rfl⟩:=j;obtain⟨C,A,z2⟩:=vZ S;refine oO.next ⟨.cells z 0 true,.cells (C.cells.toList++[]).toArray t,C.cells.toList.length+0,.pointer (some ⟨w.heap.size,0,none⟩),rfl,?_,.cells z C.cells.toList [] t (z2 G),fun m K=>.ptr (off:=0) K⟩
   simp[Instr.alloc,A,newVar,newRow]
  .simp at j
 case box t x=>
  simp only[dv]at j;unfold xO at j;split at j
  .rename_i v O;simp only[cC]at j;obtain⟨rfl,rfl⟩:=j;have hx:=(V x fe _ O).cells;refine oO.next ⟨.cells v.cells 0 true,.cells ((a.eval x).cells.toList++[]).toArray t,(a.eval x).cells.toList.length+0,.pointer (some ⟨w.heap.size,0,none⟩),rfl,?_,.cells v.cells _ [] t hx,fun m K=>.ptr (off:=0) K⟩
   simp[Instr.box,newVar,newRow]
  .simp at j
 case buildSlice t len parts=>
  simp only[dv]at j;unfold xP at j;split at j
  .rename_i ps Y;obtain⟨q1,q2⟩:=AB (G:=G) (a:=a) (fun p hp=>V p.2 DG) Y;have:=HC (P:=P) (w:=w) q1 q2 j;have he:(parts.toList.map fun x=>(x.1,a.eval x.2)).toArray=parts.map fun(i,x)=>(i,a.eval x):=by
    apply lZ;simp
   rw[he]at this;exact this.next
  .simp at j
 case makeMap t r=>
  simp only[dv]at j;unfold xS at j;split at j
  .simp only[cC]at j;obtain⟨rfl,rfl⟩:=j;refine oO.next ⟨.map [],.map #[] 0,0,.map (some w.heap.size),rfl,?_,.map,fun m K=>.map K⟩
   simp[Instr.makeMap]
  .simp at j
 case makeSlice t l c'=>
  simp only[dv]at j;unfold xT at j;split at j
  .rename_i lv cv M hc;exact(HD (V l fe _ M) (V c' fe _ hc) j).next
  .simp at j
 case call cl=>
  simp only[dv,reduceCtorEq]at j
def QH(h:R B H w G)(V:uI G E a o.op.operands)(j:dv P B.cl.cj E H o.op=some (c,H')):uF P B H G w (execOp a.eval o) c H':=by
 obtain⟨dst,op,ty,pos,after,guard⟩:=o;simp only[]at j V;cases op<;>simp only[dv,reduceCtorEq]at j
 case move x=>
  obtain⟨Z,rfl⟩:=kn j;exact v9 h rfl (V x fe _ Z)
 case assign x=>
  obtain⟨Z,rfl⟩:=kn j;exact v9 h rfl (V x fe _ Z)
 case pick x y z=>
  unfold zZ at j;split at j
  .rename_i hc;obtain⟨Z,rfl⟩:=kn j;have M:=V x fe _ hc;have:a.eval x=.bool true:=by generalize a.eval x=v at M;cases M;rfl
   exact v9 h (v:=a.eval y) (by simp[execOp,asBool,this]) (V y fe _ Z)
  .rename_i hc;obtain⟨Z,rfl⟩:=kn j;have M:=V x fe _ hc;have:a.eval x=.bool false:=by generalize a.eval x=v at M;cases M;rfl
   exact v9 h (v:=a.eval z) (by simp[execOp,asBool,this]) (V z fe _ Z)
  .simp at j
 case alloc t=>
  unfold xN at j;split at j
  .rename_i z hz;simp only[cC]at j;obtain⟨rfl,rfl⟩:=j;obtain⟨zv,z1,z2⟩:=vZ hz;have Y:=Av h (z2 G) [] t;rw[iS,uB]at Y;refine wc ⟨.pointer (some ⟨w.heap.size,0,none⟩),_,_,?_,?_,Y⟩
   .simp[Instr.alloc,z1,newVar,newRow]
   .exact .ptr (off:=0) (rS _ _ _)
  .simp at j
 case box t x=>
  unfold xO at j;split at j
  .rename_i v U;simp only[cC]at j;obtain⟨rfl,rfl⟩:=j;have Y:=Av h (V x fe _ U).cells [] t;rw[iS,uB]at Y;refine wc ⟨.pointer (some ⟨w.heap.size,0,none⟩),_,_,?_,?_,Y⟩
   .simp[Instr.box,newVar,newRow]
   .exact .ptr (off:=0) (rS _ _ _)
  .simp at j
 case build t parts=>
  unfold z5 at j;split at j
  .rename_i ps O;obtain⟨Z,rfl⟩:=kn j;obtain⟨q1,q2⟩:=AB (G:=G) (a:=a) (fun p hp=>V p.2 DG) O;have:=Qn (P:=P) (w:=w) q1 q2 Z;have C:(parts.toList.map fun x=>(x.1,a.eval x.2)).toArray=parts.map fun(i,x)=>(i,a.eval x):=by
    apply lZ;simp
   rw[C]at this;exact kS h this
  .simp at j
 case buildSlice t len parts=>
  unfold xP at j;split at j
  .rename_i ps O;obtain⟨q1,q2⟩:=AB (G:=G) (a:=a) (fun p hp=>V p.2 DG) O;have:=(HC (P:=P) (w:=w) q1 q2 j).sim h;have C:(parts.toList.map fun x=>(x.1,a.eval x.2)).toArray=parts.map fun(i,x)=>(i,a.eval x):=by
    apply lZ;simp
   rw[C]at this;exact wc this
  .simp at j
 case load t x=>
  unfold xQ at j;split at j
  .rename_i v U;obtain⟨Z,rfl⟩:=kn j;exact kS h (Hr h (V x fe _ U) Z)
  .simp at j
 case store t x y=>
  unfold z6 at j;split at j
  .rename_i av vv ha U;split at j
   .rename_i H1 J;simp only[cC]at j;obtain⟨rfl,rfl⟩:=j;exact HN (P4 h (V x fe _ ha) (V y fe _ U) J)
   .simp at j
  .simp at j
 case nilCheck x=>
  unfold z7 at j;split at j
  .rename_i r off U;simp only[cC]at j;obtain⟨rfl,rfl⟩:=j;have hx:=V x fe _ U;refine v9 h (v:=a.eval x) ?_ hx;simp only[execOp];generalize a.eval x=v at hx⊢;cases hx;rfl
  .rename_i cs U;simp only[cC]at j;obtain⟨rfl,rfl⟩:=j;have hx:=V x fe _ U;refine v9 h (v:=a.eval x) ?_ hx;simp only[execOp];generalize a.eval x=v at hx⊢;cases hx;rfl
  .simp at j
 case binOp op t x y yt=>
  unfold z8 at j;split at j
  .rename_i F yv hx hy;obtain⟨Z,rfl⟩:=kn j;exact kS h (Qj (by rw[h.val];exact h.eb) (V x fe _ hx) (V y fe _ hy) Z)
  .simp at j
 case unOp op t x=>
  unfold z9 at j;split at j
  .rename_i F hx;obtain⟨Z,rfl⟩:=kn j;exact kS h (Qk (V x fe _ hx) Z)
  .simp at j
 case convert s d x=>
  unfold xR at j;split at j
  .rename_i F hx;obtain⟨Z,rfl⟩:=kn j;exact kS h (QF h (V x fe _ hx) Z)
  .simp at j
 case makeFunc fn first captured=>
  unfold Ac at j;split at j
  .rename_i f vs S I;simp only[cC]at j;obtain⟨rfl,rfl⟩:=j;have hf:first=#[]:=by apply lZ;simpa using S
   subst hf;have:=AK (G:=G) (a:=a) (fun x hx=>V x (by simp[Op.operands];simpa using hx)) I;refine kS h ⟨.func (.func f) #[] (captured.map a.eval),by simp[Instr.makeFunc],?_⟩;have C:captured.map a.eval=(captured.toList.map a.eval).toArray:=DH;rw[C];exact .bl this.1 this.2
  .simp at j
 case makeMap t r=>
  unfold xS at j;split at j
  .simp only[cC]at j;obtain⟨rfl,rfl⟩:=j;exact wc ⟨.map (some w.heap.size),_,_,by simp[Instr.makeMap],.map (rS _ _ _),PS h⟩
  .simp at j
 case makeSlice t l c'=>
  unfold xT at j;split at j
  .rename_i lv cv A hc;exact wc ((HD (V l fe _ A) (V c' fe _ hc) j).sim h)
  .simp at j
 case slice t x lo K mx=>
  unfold xU at j;split at j
  .rename_i F l hh hx A hi';obtain⟨Z,rfl⟩:=kn j;exact kS h (Qq h (V x fe _ hx) (HO (fun y hy=>V y (by simp[Op.operands]at *;simp[hy])) A) (HO (fun y hy=>V y (by simp[Op.operands]at *;simp[hy])) hi') Z)
  .simp at j
 case fieldAddr t x f=>
  unfold Ad at j;split at j
  .rename_i F hx;obtain⟨Z,rfl⟩:=kn j;exact kS h (P5 (V x fe _ hx) Z)
  .simp at j
 case field t x f=>
  unfold Ae at j;split at j
  .rename_i F hx;obtain⟨Z,rfl⟩:=kn j;exact kS h (P6 (V x fe _ hx) Z)
  .simp at j
 case indexAddr t x i=>
  unfold Af at j;split at j
  .rename_i F iv hx K;obtain⟨Z,rfl⟩:=kn j;exact kS h (P7 (V x fe _ hx) (V i fe _ K) Z)
  .simp at j
 case index t x i=>
  unfold Ag at j;split at j
  .rename_i F iv hx K;obtain⟨Z,rfl⟩:=kn j;exact kS h (P8 (V x fe _ hx) (V i fe _ K) Z)
  .simp at j
 case lookup t m k ok=>
  unfold xV at j;split at j
  .rename_i mv kv hm hk;obtain⟨Z,rfl⟩:=kn j;exact kS h (QA h (V m fe _ hm) (V k fe _ hk) Z)
  .simp at j
 case mapUpdate t m k v=>
  unfold Ah at j;split at j
  .rename_i mv kv vv hm hk U;split at j
   .rename_i H1 J;simp only[cC]at j;obtain⟨rfl,rfl⟩:=j;exact HN (QD h (V m fe _ hm) (V k fe _ hk) (V v fe _ U) J)
   .simp at j
  .simp at j
 case extract x i=>
  unfold Ai at j;split at j
  .rename_i F hx;obtain⟨Z,rfl⟩:=kn j;exact kS h (P9 (V x fe _ hx) Z)
  .simp at j
def QI(h:R B H w G){keep:Bool}{b:Builtin}{O:Array TypeId}{ty:TypeId}{consts:qA}(U:bT G cs vs)(z:pG P keep H b O.toList cs=some (c,H')):
 uF P B H G w (builtin b O ty consts vs.toArray) c H':=by
 unfold pG at z;split at z
 .split at z
  .rename_i t u s x V;have Y:O=#[t,u]:=by apply lZ;simpa using V
   subst Y
   match vs,U with
   |[J,F],U=>
    obtain⟨j,m⟩:=U.aR;obtain⟨A,_⟩:=m.aR;exact wc (Qu h j A z)
   |[],U=>have:=U.1;simp at this
   |[_],U=>have:=U.1;simp at this
   |_::_::_::_,U=>have:=U.1;simp at this
  .simp at z
 .split at z
  .rename_i t x V;have Y:O=#[t]:=by apply lZ;simpa using V
   subst Y;split at z
   .rename_i v K;simp only[cC]at z;obtain⟨rfl,rfl⟩:=z
    match vs,U with
    |[F],U=>
     obtain⟨j,_⟩:=U.aR;exact kS h (Qw h j K)
    |[],U=>have:=U.1;simp at this
    |_::_::_,U=>have:=U.1;simp at this
   .simp at z
  .simp at z
 .split at z
  .rename_i x Z;split at z
   .rename_i v M;simp only[cC]at z;obtain⟨rfl,rfl⟩:=z
    match vs,U with
    |[],U=>have:=U.1;simp at this
    |F::xvs,U=>
     obtain⟨j,m⟩:=U.aR;have:=DK (P:=P) (w:=w) j m M;exact kS h (by simpa [Builtin.max_]using this)
   .simp at z
  .simp at z
 .split at z
  .rename_i x Z;split at z
   .rename_i v M;simp only[cC]at z;obtain⟨rfl,rfl⟩:=z
    match vs,U with
    |[],U=>have:=U.1;simp at this
    |F::xvs,U=>
     obtain⟨j,m⟩:=U.aR;have:=DK (P:=P) (w:=w) j m M;exact kS h (by simpa [Builtin.min_]using this)
   .simp at z
  .simp at z
 .simp at z
end
def DO:AX->Exit
 | .normal=>.normal
 | .exit id=>.exit id
 | .ret=>.ret
def ku(B:Bs)(N Z:Nat)(G:Gh)(w:World)(x:AX)(J:aD)(H':Hp):Exit->Act->World->Prop:=fun e z A=>
 e=DO x/\∃m,TR N m J z/\Step B Z G w H' A m/\z.defers=[]
structure Fit (P:Program):Prop where
 name:∀(f:FuncId) (fn:Func),P.funcs[f]?=some fn->fn.body.isSome=true->(fn.name == "runtime.NumGoroutine")=false
 mixed:P.follows .mixedOrders=true
structure Snd (P:Program) (B:Bs) (n:Nat) (ih:zdc->Res):Prop where
 call:∀f args H r H',ih (.call f args H)=.val r H'->∀G w vs,R B H w G->bT G args vs ->
  (∃fn,P.funcs[f]?=some fn/\fn.body.isSome=true)/\Calls P f vs.toArray w (fun e w'=>∃v G',e=.returned v/\VR G' r v/\Step B H.next G w H' w' G')
 aw:∀f N c E H x E' H',ih (.aw f N c E H)=.done x E' H'->∀G w a,R B H w G->TR N G E a->a.defers=[]->Code.wp P c (ku B N H.next G w x E' H') a w
 loop:∀f N c E H x E' H',ih (.aw f N (.loop c) E H)=.done x E' H'->∀G w a,R B H w G->TR N G E a->a.defers=[]->Code.rounds P c (ku B N H.next G w x E' H') n a w
theorem DP{P:Program}{c:Code}{Q j:Exit->Act->World->Prop}(h:∀e a w,Q e a w->j e a w):∀{n:Nat}{a:Act}{w:World},Code.rounds P c Q n a w->Code.rounds P c j n a w
 |0,_,_,hr=>hr
 |n+1,_,_,hr=>by
  rw[rounds_succ]at *;exact tg (fun e a w C=>by
   cases e with
   |normal=>exact DP h C
   |_=>exact h _ _ _ C) hr
def ku.trans{B:Bs}{V:Nat}{G m:Gh}{w:World}{H' U:Hp}{x:AX}{Z:aD}(S:Step B V G w H' w' m){e:Exit}{Y:World}(h:ku B N H'.next m w' x Z U e a Y):ku B N V G w x Z U e a Y:=by
 obtain⟨C,O,j,M,A⟩:=h;exact⟨C,O,j,S.trans M,A⟩
def AL:=@ku.trans
section
variable {P:Program} {B:Bs} {G:Gh} {H H':Hp} {w:World}
def DQ(h:TR N G E a){x:Operand}(K:aV E x=some c):VR G c (a.eval x):=by
 cases x with
 |tmp t=>simp only[aV,aH]at K;subst K;exact h.bM t
 |const v=>exact vY K
 |global g=>simp[aV]at K
 |func f=>simp only[aV,aH]at K;subst K;exact .bl (vs:=[]) rfl aI
def TR.f2(h:TR N G E a)(xs:Array Operand):uI G E a xs:=fun _ _ _ hc=>DQ h hc
theorem QJ{d:Nat}(h:VR G (E.at d) (a.tmps.getD d undef)):(match E.at d with|.bool b=>some b |_=>none)=(match a.tmps[d]? with|some (.bool b)=>some b |_=>none):=by
 rw[ji]at h;cases hd:a.tmps[d]? with
 |none=>
  rw[hd]at h;simp only[Option.getD_none,undef]at h;generalize E.at d=c at h;cases h;rfl
 |some v=>
  rw[hd]at h;simp only[bE]at h;generalize E.at d=c at h;cases h<;>rfl
theorem QK{j:Nat}(h:∀d,(ops[j]?).bind (·.dst)=some d->VR G (E.at d) (a.tmps.getD d undef)):Aj ops.toList E j=yielded ops a.tmps j:=by
 unfold Aj yielded;rw[uH];cases hd:(ops[j]?).bind (·.dst)with
 |none=>rfl
 |some d=>exact QJ (h d hd)
theorem HP(h:∀j b d,o.guard=some (j,b)->(ops[j]?).bind (·.dst)=some d->VR G (E.at d) (a.tmps.getD d undef)):jc ops.toList E o=Region.wanted o (yielded ops a.tmps):=by
 unfold jc Region.wanted;cases C:o.guard with
 |none=>rfl
 |some p=>
  obtain⟨j,b⟩:=p;simp only[];rw[QK (fun d hd=>h j b d C hd)];cases yielded ops a.tmps j with
  |none=>rfl
  |some b'=>cases b<;>cases b' <;>rfl
theorem AM(fit:Fit P)(hih:Snd P B n ih)(h:R B H w G)(hE:uI G E a o.op.operands)(j:ej P B.cl ih f E H o.op=.val c H')
 {K:Act->World->Prop}{Q:Exit->Act->World->Prop} (hK:∀v U S,VR S c v->Step B H.next G w H' U S->K (a.put o.dst v) U):o.wp P a w K Q:=by
 have C:∀s:Sem Next,uF P B H G w s c H'->execOp a.eval o=s->o.wp P a w K Q:=fun s hs he=>by
  obtain⟨m,U,S,v,h1,h2,h3,h4⟩:=hs;unfold Oper.wp;rw[he,h1];rcases h2 with rfl|⟨rfl,rfl⟩
  .exact hK v U S h3 h4
  .exact hK undef U S h3 h4
 unfold ej at j;split at j
 .rename_i V J;unfold sT at j;split at j
  .rename_i g hg;split at j
   .rename_i k cap vs hgv O;have Y:uI G E a V.operands:=by rw[J]at hE;exact hE
    have hgr:=Y g (by simp[Call.operands,hg]) _ hgv;have Z:=AK (G:=G) (a:=a) (fun x hx=>Y x (by simp[Call.operands,hg];exact .inr AE)) O;generalize hge:a.eval g=gv at hgr;cases hgr with
    |bl hl hv=>
     rename_i M;have hall:=Z.append (G:=G) ⟨hl,hv⟩;obtain⟨⟨fn,hfn,z⟩,A⟩:=hih.call _ _ _ _ _ j G w _ h hall;have F:=fit.name _ _ hfn z;unfold Oper.wp;have hrun:(execOp a.eval o).run P w=.ok (.enter k ((V.args.toList.map a.eval)++M).toArray) w:=by
      have I:V.args.map a.eval=(V.args.toList.map a.eval).toArray:=DH;unfold execOp;rw[J];simp only[eY,resolve,hg,hge,Deferred.ofValue,jQ,fd,invoke,callFunc,run_program,hfn,F];simp only[dg,bH];have hb:fn.body.isNone=false:=by cases hb:fn.body<;>simp_all
      rw[hb];simp[I]
     rw[hrun];show Calls P k _ w _;refine A.mono fun e U hr=>?_;obtain⟨v,S,rfl,h1,h2⟩:=hr;exact hK v U S h1 h2
   .simp at j
  .rename_i b hg;split at j
   .rename_i vs O;split at j
    .rename_i v H1 hb;simp only[Res.val.injEq]at j;obtain⟨rfl,rfl⟩:=j;have Y:uI G E a V.operands:=by rw[J]at hE;exact hE
     have Z:=AK (G:=G) (a:=a) (fun x hx=>Y x (by simp[Call.operands,hg];simpa using hx)) O;have hs:=QI (ty:=o.type) (consts:=V.args.map fun|.const _=>true |_=>false) h Z hb;refine C _ hs ?_;have I:V.args.map a.eval=(V.args.toList.map a.eval).toArray:=DH;unfold execOp;rw[J];simp only[resolve,hg,I];rfl
    .simp at j
   .simp at j
  .simp at j
 .rename_i op hne;unfold gI at j;split at j
  .rename_i v H1 ho;simp only[Res.val.injEq]at j;obtain⟨rfl,rfl⟩:=j;exact C _ (QH h hE ho) rfl
  .simp at j
theorem DR(fit:Fit P){n:Nat}{ih:zdc->Res}(S:Snd P B n ih){f N:Nat}{ops:qE}:∀(l:qs) {E E':aD}{H:Hp}{x:AX}{a:Act}{w:World}{G:Gh}{Q:Exit->Act->World->Prop},jA P B.cl ih f N ops.toList l E H=.done x E' H' ->
 R B H w G->TR N G E a->a.defers=[]->(∀e O A,ku B N H.next G w x E' H' e O A->Q e O A)->wpList P ops Q l a w
 |[],E,E',H,x,a,w,G,Q,hr,h,ht,hd,hQ=>by
  simp only[jA,Res.done.injEq]at hr;obtain⟨rfl,rfl,rfl⟩:=hr;exact hQ _ _ _ ⟨rfl,G,ht,jD h,hd⟩
 |o::l,E,E',H,x,a,w,G,Q,hr,h,ht,hd,hQ=>by
  have I:∀E H,(List.rec (motive:=fun _=>aD->Hp->Res) (fun E H=>.done .normal E H)
   (fun o _ M E H=>match jc ops.toList E o with
     |true=>match ej P B.cl ih f E H o.op with
      | .val v H=>jN M H (fo N E o.dst v)
      |_=>.ay
     |false=>jN M H (fo N E o.dst ea)) l E H:Res)=jA P B.cl ih f N ops.toList l E H:=fun _ _=>rfl
  have Y:jA P B.cl ih f N ops.toList (o::l) E H=match jc ops.toList E o with
   |true=>match ej P B.cl ih f E H o.op with
    | .val v H=>jN (jA P B.cl ih f N ops.toList l) H (fo N E o.dst v)
    |_=>.ay
   |false=>jN (jA P B.cl ih f N ops.toList l) H (fo N E o.dst ea):=rfl
  rw[Y]at hr;have V:=HP (G:=G) (E:=E) (a:=a) (ops:=ops) (o:=o) (fun _ _ d _ _=>ht.bM d);have J:∀z v,(a.put z v).defers=[]:=fun z v=>by cases z<;>exact hd
  cases K:jc ops.toList E o with
  |true=>
   rw[K]at hr V;simp only[]at hr;split at hr
   .rename_i v H1 j;cases hp:fo N E o.dst v with
    |none=>rw[hp]at hr;simp[jN]at hr
    |some E1=>
     rw[hp]at hr;simp only[jN]at hr;unfold wpList;rw[au V.symm];refine .inl (AM fit S h (ht.f2 _) j fun F A m C Z=>?_);have U:TR N m E1 (a.put o.dst F):=(ht.mono Z.ext).put C hp;exact DR fit S l hr Z.r U (J _ _) (fun e a w he=>hQ _ _ _ (AL Z he))
   .simp at hr
  |false=>
   rw[K]at hr V;simp only[]at hr;cases hp:fo N E o.dst ea with
   |none=>rw[hp]at hr;simp[jN]at hr
   |some E1=>
    rw[hp]at hr;simp only[jN]at hr;unfold wpList;rw[ad (by rw[<-V];simp)];exact DR fit S l hr h (ht.put (yb G) hp) (J _ _) hQ
end
section
variable {P:Program} {B:Bs} {G:Gh} {H H':Hp} {w:World} {cfg:Cfg}
theorem Sx.aM:∀{a b:Sx},Sx.beq a b=true->a=b
 | .var i,b,h=>by
   cases b<;>simp only[Sx.beq,dg]at h;rw[ib h]
 | .lit i,b,h=>by
   cases b<;>simp only[Sx.beq,dg,mG]at h;rw[h]
 | .cq o k x y,b,h=>by
   cases b<;>simp only[Sx.beq,dg,jj]at h;obtain⟨⟨⟨rfl,rfl⟩,j⟩,m⟩:=h;rw[Sx.aM j,Sx.aM m]
 | .eI k x,b,h=>by
   cases b<;>simp only[Sx.beq,dg,jj]at h;obtain⟨rfl,j⟩:=h;rw[Sx.aM j]
mutual
theorem AV.aM:∀{a b:AV},AV.beq a b=true->a=b
 | .int k a,b,h=>by
   cases b<;>simp only[AV.beq,jj,mG,dg]at h;obtain⟨rfl,rfl⟩:=h;rfl
 | .sx k a,b,h=>by
   cases b<;>simp only[AV.beq,jj,dg]at h;obtain⟨rfl,j⟩:=h;rw[Sx.aM j]
 | .bool a,b,h=>by
   cases b<;>simp only[AV.beq,mG,dg]at h;subst h;rfl
 | .ae a,b,h=>by
   cases b<;>simp only[AV.beq,mG,dg]at h;subst h;rfl
 | .bK,b,h=>by cases b<;>simp only[AV.beq,dg]at h;rfl
 | .a5,b,h=>by cases b<;>simp only[AV.beq,dg]at h;rfl
 | .bP,b,h=>by cases b<;>simp only[AV.beq,dg]at h;rfl
 | .ab,b,h=>by cases b<;>simp only[AV.beq,dg]at h;rfl
 | .ptr r o,b,h=>by
   cases b<;>simp only[AV.beq,cN,dg]at h;obtain⟨j,m⟩:=h;rw[ib j,ib m]
 | .a2 a,b,h=>by
   cases b<;>simp only[AV.beq,dg]at h;rw[oP h]
 | .sl r o l z,b,h=>by
   cases b<;>simp only[AV.beq,cN,dg]at h;obtain⟨⟨⟨j,m⟩,A⟩,O⟩:=h;rw[ib j,ib m,ib A,ib O]
 | .ai a,b,h=>by
   cases b<;>simp only[AV.beq,dg]at h;rw[HQ h]
 | .map r,b,h=>by
   cases b<;>simp only[AV.beq,dg]at h;rw[ib h]
 | .bl f a,b,h=>by
   cases b<;>simp only[AV.beq,cN,dg]at h;rw[ib h.1,oP h.2]
 | .agg a,b,h=>by
   cases b<;>simp only[AV.beq,dg]at h;rw[oP h]
 | .aW a,b,h=>by
   cases b<;>simp only[AV.beq,dg]at h;rw[oP h]
theorem oP:∀{a b:qm},kM a b=true->a=b
 |[],b,h=>by cases b<;>simp only[kM,dg]at h;rfl
 |a::x,b,h=>by
  cases b<;>simp only[kM,cN,dg]at h;rw[AV.aM h.1,oP h.2]
theorem HQ:∀{a b:List qm},ur a b=true->a=b
 |[],b,h=>by cases b<;>simp only[ur,dg]at h;rfl
 |a::x,b,h=>by
  cases b<;>simp only[ur,cN,dg]at h;rw[oP h.1,HQ h.2]
end
theorem HR{A β:Type}:∀{a b:List (A×β)},a.map (·.1)=b.map (·.1)->a.map (·.2)=b.map (·.2)->a=b
 |[],b,h,_=>by cases b<;>simp at h;rfl
 |(x,y)::a,b,h,Y=>by
  cases b with
  |nil=>simp at h
  |cons c b=>
   obtain⟨u,v⟩:=c;simp only[el,ew]at h Y;obtain⟨rfl,h⟩:=h;obtain⟨rfl,Y⟩:=Y;rw[HR h Y]
def HB.aM{a b:HB}(h:HB.beq a b=true):a=b:=by
 cases a<;>cases b<;>simp only[HB.beq,cN,dg,mG]at h
 .obtain⟨⟨j,m⟩,A⟩:=h;rw[oP j,ib m,A]
 .rw[HR (oP h.1) (oP h.2)]
def mJ(P:Program)(cfg:Cfg)(ih:zdc->Res)(f N:Nat)(Z:qs):List Rec->qs->aD->Hp->aD->Hp->Prop
 |[],[],E,H,E',H'=>E=E'/\H=H'
 |r::rs,o::l,E,H,E',H'=>r.o=o/\r.E=E/\r.H=H/\jc Z E o=r.did/\(r.did=true->ej P cfg ih f E H o.op=.val r.val r.H')/\(r.did=false->r.val=ea/\r.H'=H) /\
  ∃E1,fo N E o.dst r.val=some E1/\mJ P cfg ih f N Z rs l E1 r.H' E' H'
 |_,_,_,_,_,_=>False
theorem yk{ih:zdc->Res}{f N:Nat}{Z:qs}:∀{l:qs}{E E':aD}{H H':Hp}{rs:List Rec},jd P cfg ih f N Z l E H=.done E' H' rs->mJ P cfg ih f N Z rs l E H E' H'
 |[],E,E',H,H',rs,h=>by
  simp only[jd,zdt.done.injEq]at h;obtain⟨rfl,rfl,rfl⟩:=h;exact⟨rfl,rfl⟩
 |o::l,E,E',H,H',rs,h=>by
  simp only[jd]at h;cases J:jc Z E o with
  |true=>
   rw[J]at h;simp only[]at h;cases j:ej P cfg ih f E H o.op with
   |val v H1=>
    rw[j]at h;simp only[]at h;cases hp:fo N E o.dst v with
    |none=>rw[hp]at h;simp[nF,nE]at h
    |some E1=>
     rw[hp]at h;simp only[nF]at h;cases hr:jd P cfg ih f N Z l E1 H1 with
     |ay=>rw[hr]at h;simp[nE]at h
     |done V U Y=>
      rw[hr]at h;simp only[nE,zdt.done.injEq]at h;obtain⟨rfl,rfl,rfl⟩:=h;exact⟨rfl,rfl,rfl,J,fun _=>j,aI,E1,hp,yk hr⟩
   |done _ _ _=>rw[j]at h;simp at h
   |ay=>rw[j]at h;simp at h
  |false=>
   rw[J]at h;simp only[]at h;cases hp:fo N E o.dst ea with
   |none=>rw[hp]at h;simp[nF,nE]at h
   |some E1=>
    rw[hp]at h;simp only[nF]at h;cases hr:jd P cfg ih f N Z l E1 H with
    |ay=>rw[hr]at h;simp[nE]at h
    |done V U Y=>
     rw[hr]at h;simp only[nE,zdt.done.injEq]at h;obtain⟨rfl,rfl,rfl⟩:=h;exact⟨rfl,rfl,rfl,J,aI,fun _=>⟨rfl,rfl⟩,E1,hp,yk hr⟩
def gw(rs:List Rec)(J:aD)(e:Nat):aD:=match rs[e]? with
 |some r=>r.E
 |none=>J
theorem DS{ih:zdc->Res}{f N:Nat}{Z:qs}:∀{rs:List Rec}{l:qs}{E E':aD}{H H':Hp},mJ P cfg ih f N Z rs l E H E' H'->rs.length=l.length
 |[],[],_,_,_,_,_=>rfl
 |[],_::_,_,_,_,_,h=>by simp[mJ]at h
 |_::_,[],_,_,_,_,h=>by simp[mJ]at h
 |r::rs,o::l,E,E',H,H',h=>by
  obtain⟨_,_,_,_,_,_,E1,_,h⟩:=h;simp[DS h]
def DT{f:Nat}{Z:qs}{rs:List Rec}{l:qs}{J:aD}{H H':Hp}(h:mJ P cfg ih f N Z rs l E H J H'):gw rs J 0=E/\cB rs H' 0=H:=by
 cases rs with
 |nil=>
  cases l with
  |nil=>obtain⟨rfl,rfl⟩:=h;exact⟨rfl,rfl⟩
  |cons o l=>simp[mJ]at h
 |cons r rs=>
  cases l with
  |nil=>simp[mJ]at h
  |cons o l=>
   obtain⟨_,j,m,_⟩:=h;exact⟨by simp[gw,j],by simp[cB,m]⟩
structure AtD (P:Program) (cfg:Cfg) (ih:zdc->Res) (f N:Nat) (all:qs) (o:Oper) (r:Rec) (E E1:aD) (H H1:Hp):Prop where
 eo:r.o=o
 eE:r.E=E
 eH:r.H=H
 f6:jc all E o=r.did
 fH:r.did=true->ej P cfg ih f E H o.op=.val r.val H1
 no:r.did=false->r.val=ea/\H1=H
 put:fo N E o.dst r.val=some E1
 eH':r.H'=H1
theorem uJ{ih:zdc->Res}{f N:Nat}{Z:qs}:∀{rs:List Rec}{l:qs}{E E':aD}{H H':Hp},mJ P cfg ih f N Z rs l E H E' H'->∀{i:Nat}{r:Rec},rs[i]?=some r ->
 ∃o,l[i]?=some o/\AtD P cfg ih f N Z o r (gw rs E' i) (gw rs E' (i+1)) (cB rs H' i) (cB rs H' (i+1))
 |[],_,_,_,_,_,_,i,r,hr=>by simp at hr
 |r::rs,[],_,_,_,_,h,_,_,_=>by simp[mJ]at h
 |r::rs,o::l,E,E',H,H',h,i,r',hr=>by
  obtain⟨V,m,A,O,J,C,E1,U,j⟩:=h;obtain⟨S,M⟩:=DT j;cases i with
  |zero=>
   simp at hr;subst hr;have Y:gw (r::rs) E' 1=E1:=by rw[<-S];simp[gw]
   have K:cB (r::rs) H' 1=r.H':=by rw[<-M];simp[cB]
   have e3:gw (r::rs) E' 0=E:=by simp[gw,m]
   have e4:cB (r::rs) H' 0=H:=by simp[cB,A]
   refine⟨o,rfl,?_⟩;rw[Y,K,e3,e4];exact⟨V,m,A,O,J,fun I=>⟨(C I).1,(C I).2⟩,U,rfl⟩
  |succ i=>
   obtain⟨F,z,g2⟩:=uJ j (i:=i) (r:=r') (by simpa using hr);have Y:∀k,gw (r::rs) E' (k+1)=gw rs E' k:=fun k=>by simp[gw]
   have K:∀k,cB (r::rs) H' (k+1)=cB rs H' k:=fun k=>by simp[cB]
   refine⟨F,by simpa using z,?_⟩;rw[Y,Y,K,K];exact g2
def rT(op:Op):Bool:=match gJ op with|.cR=>true |_=>false
def pK(op:Op):Bool:=match gJ op with|.read=>true |_=>false
def QL{op:Op}(Z:rT op=true):∃u,∀X,dv P D E X op=ret X u:=by
 cases op<;>simp only[rT,gJ,dg]at Z<;>simp only[dv]
 case move x=>exact⟨_,fun X=>rfl⟩
 case assign x=>exact⟨_,fun X=>rfl⟩
 case pick c a b=>
  unfold zZ;cases aV E c with
  |none=>exact⟨none,fun X=>rfl⟩
  |some v=>cases v with
   |bool t=>cases t<;>exact⟨_,fun X=>rfl⟩
   |_=>exact⟨none,fun X=>rfl⟩
 case build t parts=>
  unfold z5;cases ki E parts.toList with
  |none=>exact⟨none,fun X=>rfl⟩
  |some J=>exact⟨_,fun X=>rfl⟩
 case nilCheck x=>
  unfold z7;cases aV E x with
  |none=>exact⟨none,fun X=>rfl⟩
  |some v=>cases v with
   |ptr r o=>exact⟨some (.ptr r o),fun X=>rfl⟩
   |a2 cs=>exact⟨some (.a2 cs),fun X=>rfl⟩
   |_=>exact⟨none,fun X=>rfl⟩
 case binOp op t x y yt=>
  unfold z8;cases aV E x with
  |none=>exact⟨none,fun X=>rfl⟩
  |some v=>cases aV E y with
   |none=>exact⟨none,fun X=>rfl⟩
   |some u=>exact⟨_,fun X=>rfl⟩
 case unOp op t x=>
  unfold z9;cases aV E x with
  |none=>exact⟨none,fun X=>rfl⟩
  |some v=>exact⟨_,fun X=>rfl⟩
 case makeFunc fn first captured=>
  unfold Ac;cases fn with
  |func f=>
   cases first.toList with
   |nil=>cases io E captured.toList with
    |none=>exact⟨none,fun X=>rfl⟩
    |some vs=>exact⟨some (.bl f vs),fun X=>rfl⟩
   |cons _ _=>exact⟨none,fun X=>rfl⟩
  |_=>exact⟨none,fun X=>rfl⟩
 case fieldAddr t x f=>
  unfold Ad;cases aV E x with
  |none=>exact⟨none,fun X=>rfl⟩
  |some v=>exact⟨_,fun X=>rfl⟩
 case field t x f=>
  unfold Ae;cases aV E x with
  |none=>exact⟨none,fun X=>rfl⟩
  |some v=>exact⟨_,fun X=>rfl⟩
 case indexAddr t x i=>
  unfold Af;cases aV E x with
  |none=>exact⟨none,fun X=>rfl⟩
  |some v=>cases aV E i with
   |none=>exact⟨none,fun X=>rfl⟩
   |some u=>exact⟨_,fun X=>rfl⟩
 case index t x i=>
  unfold Ag;cases aV E x with
  |none=>exact⟨none,fun X=>rfl⟩
  |some v=>cases aV E i with
   |none=>exact⟨none,fun X=>rfl⟩
   |some u=>exact⟨_,fun X=>rfl⟩
 case extract x i=>
  unfold Ai;cases aV E x with
  |none=>exact⟨none,fun X=>rfl⟩
  |some v=>exact⟨_,fun X=>rfl⟩
 all_goals exact⟨none,fun X=>rfl⟩
def DU{op:Op}(o:rT op=true)(h:dv P D E H op=some (v,H')):H'=H/\∀X,dv P D E X op=some (v,X):=by
 obtain⟨u,j⟩:=QL (P:=P) (D:=D) (E:=E) o;rw[j]at h;obtain⟨rfl,rfl⟩:=kn h;exact⟨rfl,fun X=>by rw[j];rfl⟩
def DV{op:Op}(o:pK op=true)(h:ej P cfg ih f E H op=.val v H'):H'=H:=by
 cases op<;>simp only[pK,gJ,dg]at o<;>simp only[ej,dv]at h
 case load t x=>
  unfold xQ at h;split at h
  .cases hx:jL P H t ‹AV› <;>rw[hx]at h<;>simp[ret,gI]at h;exact h.2.symm
  .simp[gI]at h
 case slice t x lo hi mx=>
  unfold xU at h;split at h
  .rename_i F S U _ _ _;cases hx:nC P H t F S U<;>rw[hx]at h<;>simp[ret,gI]at h;exact h.2.symm
  .simp[gI]at h
 case convert s d x=>
  unfold xR at h;split at h
  .cases hx:lV P H s d ‹AV› <;>rw[hx]at h<;>simp[ret,gI]at h;exact h.2.symm
  .simp[gI]at h
 case lookup t m k ok=>
  unfold xV at h;split at h
  .rename_i mv I _ _;cases hx:gT P H t mv I ok<;>rw[hx]at h<;>simp[ret,gI]at h;exact h.2.symm
  .simp[gI]at h
 case call c=>
  unfold sT at h;cases hc:c.callee with
  |value g=>rw[hc]at o;simp at o
  |invoke g m=>rw[hc]at o;simp at o
  |builtin b=>
   rw[hc]at o h;simp only[]at h;split at h
   .rename_i vs _;cases b<;>simp only[dg]at o<;>simp only[pG]at h;all_goals
     split at h
     .rename_i v1 H1 z;simp only[Res.val.injEq]at h;obtain⟨rfl,rfl⟩:=h;split at z
      .split at z
       .simp only[cC]at z;exact z.2.symm
       .simp at z
      .simp at z
     .simp at h
   .simp at h
def QM(Y:sV o=true)(h:dv P D E H o.op=some (v,H')):∃Z,H'=H.alloc Z:=by
 obtain⟨z,V,S,U,j,guard⟩:=o;simp only[]at h;cases V<;>simp only[sV,gJ,dg]at Y<;>simp only[dv,reduceCtorEq]at h
 case alloc t=>
  unfold xN at h;split at h
  .simp only[cC]at h;exact⟨_,h.2.symm⟩
  .simp at h
 case box t x=>
  unfold xO at h;split at h
  .simp only[cC]at h;exact⟨_,h.2.symm⟩
  .simp at h
 case buildSlice t len parts=>
  unfold xP at h;split at h
  .unfold dc at h;(repeat' split at h)<;>first|(simp only[cC]at h;exact⟨_,h.2.symm⟩)|simp at h
  .simp at h
 case makeMap t r=>
  unfold xS at h;split at h
  .simp only[cC]at h;exact⟨_,h.2.symm⟩
  .simp at h
 case makeSlice t l c=>
  unfold xT at h;split at h
  .unfold pF at h;(repeat' split at h)<;>first|(simp only[cC]at h;exact⟨_,h.2.symm⟩)|simp at h
  .simp at h
def uK{op:Op}(I:∀c,op≠.call c):ej P cfg ih f E H op=.val v H'↔dv P cfg.cj E H op=some (v,H'):=by
 have:ej P cfg ih f E H op=gI (dv P cfg.cj E H op):=by
  unfold ej;split
  .exact(I _ rfl).elim
  .rfl
 rw[this];cases dv P cfg.cj E H op with
 |none=>simp[gI]
 |some p=>obtain⟨a,b⟩:=p;simp[gI]
def QN(Y:lW o=false)(h:ej P cfg ih f E H o.op=.val v H'):H'=H\/∃Z,H'=H.alloc Z:=by
 cases S:gJ o.op with
 |ei=>simp[lW,S]at Y
 |read=>exact .inl (DV (by simp[pK,S]) h)
 |cR=>
  have I:∀c,o.op≠.call c:=fun c e=>by
   rw[e]at S;simp only[gJ]at S;split at S<;>simp at S
  exact .inl (DU (P:=P) (by simp[rT,S]) ((uK I).1 h)).1
 |make=>
  have I:∀c,o.op≠.call c:=fun c e=>by
   rw[e]at S;simp only[gJ]at S;split at S<;>simp at S
  exact .inr (QM (by simp[sV,S]) ((uK I).1 h))
end
end Go.Ab
