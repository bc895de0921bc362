/- Lemmas for the last file. -/
import Derived.Test.YtbflaciihaijgaaPEB
set_option linter.all false
set_option maxHeartbeats 32000000
namespace Go.Ab
set_option maxRecDepth 20000
open Go
abbrev qH:=Array Bool
abbrev qu:=List Int
variable{qd:Prop}
def By(h:qd:=by simpa using z):=h
def Bz(h:qd:=by simp[Builtin.lenOf]):=h
def vd(h:qd:=by rw[List.length_take];omega):=h
def yC(h:qd:=by simp[Builtin.len_,dT hd,goInt]):=h
def fq(h:qd:=by simp[Op.operands]):=h
def EM(h:qd:=by simp only[Op.operands,List.mem_toArray,List.mem_map];exact⟨p,hp,rfl⟩):=h
def EN(h:qd:=by apply Array.ext';simp):=h
def od:=@List.flatten_cons
def ve:=@Nat.zero_mul
def EO:=@Go.run_firstCells_some
def lV:=@List.mem_of_getElem?
def fF:=@List.drop_zero
def BA:=@Nat.sub_zero
def yD:=@List.take_length
def co:=@Bool.and_eq_true
def yE:=@Nat.le_of_ble_eq_true
def dC:=@Bool.false_eq_true
def EP:=@List.drop_append_of_le_length
def Ju:=@List.eq_nil_of_length_eq_zero
def xd:=@List.all_append
def Jv:=@List.length_eq_zero_iff
def jq:=@decide_eq_true_eq
def bS:=@Option.getD_some
def BB:=@List.getElem?_set
def yF:=@Array.getElem?_toList
def dR:=@List.cons.injEq
def lW:=@Nat.mul_one
def tI:=@Go.Code.wp_mono
def dS:=@List.map_cons
def jJ:=And.intro @co @jq
end Go.Ab
namespace Go.Ab
set_option maxRecDepth 20000
open Go Go.RowKit
variable{cs:qs}{vs:qE}{s n b V N:Nat}{t u e m:TypeId}{x c y k v:AV}{K Y g:Value}{C d:TypeDesc}{a:Act}{w':World}{Z:Gh}{o:Oper}{E:aB}{D:BinOp->Sx->Sx->qF}{ops:qK}{ih:zd2->Res}{f:FuncId}
section
variable {P:Program} {B:Bs} {G:Gh} {H H':Hp} {w:World}
def cp.bz(h:cp G cs vs)(I:cs.all AV.one=true):∀v∈vs,v.oneCell'=true:=fun v V=>by
 obtain⟨i,Z,rfl⟩:=yu V;have z:i<cs.length:=by rw[h.1];exact Z
 rw[(h.2 i _ _ (a0 z) (a0 Z)).bz];exact hM.1 I _ (cL z)
def Tc{xs:List qs}(M:∀(i:Nat) (Y:qs),xs[i]?=some Y->Y.length=s):xs.flatten.length=xs.length*s /\
 ∀(i j:Nat) (c:AV),j<s->xs.flatten[i*s+j]?=some c->∃Y,xs[i]?=some Y/\Y[j]?=some c:=by
 induction xs with
 |nil=>exact⟨az,az⟩
 |cons Y xs ih=>
  have hr:=M 0 Y rfl;obtain⟨Z,g⟩:=ih (fun i r z=>M (i+1) r By);refine⟨by simp[Z,hr,wX];omega,fun i j c m hc=>?_⟩;rw[od]at hc;cases i with
  |zero=>
   rw[ve,bO,iw ac]at hc;exact⟨Y,rfl,hc⟩
  |succ i=>
   rw[kN (by rw[hr,wX];omega)]at hc;rw[hr,show(i+1)*s+j-s=i*s+j by rw[wX];omega]at hc;obtain⟨r,K,V⟩:=g i j c m hc;exact⟨r,wU,V⟩
def Td{k:Nat}(h:k<n*s):k/s<n/\k%s<s/\k=k/s*s+k%s:=by
 have M:0<s:=by
  rcases Nat.eq_zero_or_pos s with e|e
  .subst e;omega
  .exact e
 refine⟨(Nat.div_lt_iff_lt_mul M).2 h,Nat.mod_lt _ M,?_⟩;have:=Nat.div_add_mod k s;rw[Nat.mul_comm]at this;omega
def Te(h:R B H w G){lo V:qB}{Y g:qQ}(U:VR G x K)(O:vc G lo Y)(i:vc G V g)(M:oM P H t x lo V=some c):
 ∃v,(Instr.sliceAt t K Y g none).run P w=.ok v w/\VR G c v:=by
 unfold oM at M;split at M
 .rename_i r I;split at M
  .rename_i n e cs L J hd C;split at M
   .rename_i z l m j bl bh;split at M
    .rename_i hc;obtain⟨h1,h2,h3⟩:=hc;cases U with
     |ptr hr=>
      rename_i b o x;have hf:=h.bm _ _ _ _ _ _ _ hr C;have hb:=EK (P:=P) (w:=w) (cap:=n) O i bl bh h1 h2 (aO _) false;have Z:(Instr.sliceAt t (.pointer (some ⟨b,o+I,none⟩)) Y g none).run P w=.ok (.slice (some (if n=l then ⟨b,o+I,none⟩else ⟨b,o+I+l*z,none⟩)) (m-l) (n-l)) w:=by
       simp only[Instr.sliceAt,fh,dT hd,fo];simp[Instr.sureAddr,hb,kT j,oc]
      split at M
      .rename_i e1;simp only[aJ]at M;subst M;subst e1;rw[lU]at Z;exact⟨_,Z,.bU _ _⟩
      .rename_i hne;simp only[aJ]at M;subst M;rw[af ac]at Z;refine⟨_,Z,?_⟩;rw[kO];refine .sl hr ac ?_;have e3:(n-l)*z+l*z=n*z:=Ev;omega
    .simp at M
   .simp at M
  .simp at M
 .exact Ta U O i M
def EQ(h:R B H w G){xv:Value}{l:qs}(hx:VR G x xv)(M:fN H s x=some (n,l)):
 ∃C,cp G l C/\C.length=n*s/\(∀J,(Builtin.lenOf xv).run P J=.ok n J)/\(∀J,(∀a,J.cell? a=w.cell? a)->(Builtin.firstCells s n xv).run P J=.ok C.toArray J):=by
 unfold fN at M;split at M
 .rename_i r off V z;cases hx with
  |sl hr hl hc=>
   rename_i b o x U;split at M
   .rename_i cs imm tip hg;simp only[]at M;split at M
    .rename_i hlen;simp only[cO]at M;obtain⟨rfl,rfl⟩:=M;obtain⟨vs,h1,h2⟩:=(((h.cells _ _ _ _ _ _ _ hr hg).drop off).take (V*s)).list;have Z:vs.length=V*s:=by rw[<-h1.1];exact hlen
     refine⟨vs,h1,Z,fun J=>Bz,fun J m=>?_⟩;exact EO J s V _ V U vs Z (fun j v hj=>by rw[m,oc];exact h2 j v hj)
    .simp at M
   .simp at M
 .rename_i O;split at M
  .rename_i hall;simp only[cO]at M;obtain⟨rfl,rfl⟩:=M;have K:∀(i:Nat) (Y:qs),O[i]?=some Y->Y.length=s:=fun i Y hi=>by
    have:=hM.1 hall Y (lV hi);simpa using this
   obtain⟨hfl,hfg⟩:=Tc K;cases hx with
   |bU a U=>
    refine⟨[],rz G,az,fun J=>Bz,fun J m=>?_⟩;cases a with
    |none=>simp[Builtin.firstCells]
    |some a=>
     simp[Builtin.firstCells];rfl
   |ao vs hz hF g hcap=>
    rename_i b o U z;have hzs:O.length=0\/z=s:=by
     cases O with
     |nil=>exact .inl rfl
     |cons Y O=>exact .inr (by rw[<-hz 0 Y rfl,K 0 Y rfl])
    have hh:jp G w b o O.flatten:=fun k c hk=>by
     have I:k<O.length*s:=by rw[<-hfl];exact(eS.1 hk).1
     obtain⟨d1,d2,d3⟩:=Td I;have hz':z=s:=by
      rcases hzs with e|e
      .rw[e]at I;omega
      .exact e
     subst hz';obtain⟨Y,g1,g2⟩:=hfg (k/z) (k%z) c d2 (by rw[<-d3];exact hk);refine⟨vs (k/z) (k%z),?_,g _ _ Y c g1 g2⟩;have:=h.b0 _ _ _ (hF (k/z) (k%z) d1 d2);rw[show o+k=o+k/z*z+k%z by omega];exact this
    obtain⟨C,h1,h2⟩:=hh.list;have Z:C.length=O.length*s:=by rw[<-h1.1];exact hfl
    refine⟨C,h1,Z,fun J=>Bz,fun J m=>?_⟩;exact EO J s O.length _ O.length U C Z (fun j v hj=>by rw[m,oc];exact h2 j v hj)
  .simp at M
 .simp only[cO]at M;obtain⟨rfl,rfl⟩:=M;cases hx;exact⟨[],rz G,az,fun J=>Bz,fun J m=>by simp[Builtin.firstCells]⟩
 .rename_i b;split at M
  .rename_i e;subst e;simp only[cO]at M;obtain⟨rfl,rfl⟩:=M;cases hx with
   |ai L _ hb=>
    subst hb;have hsz:L.data.toList.length=L.size:=by show L.data.toList.length=L.data.size;simp
    refine⟨L.data.toList.map fun x=>.int .u8 x.toNat,⟨az,fun i c v hc g=>?_⟩,az,fun J=>by simp[Builtin.lenOf,hsz],fun J m=>?_⟩
    .rw[fO]at hc g;cases hi:L.data.toList[i]? with
     |none=>rw[hi]at hc;simp at hc
     |some u=>
      rw[hi]at hc g;simp only[jo,aJ]at hc g;subst hc g;exact .int _ _
    .simp only[Builtin.firstCells,kR]
     congr 1
     apply m1;have:(L.extract 0 L.data.toList.length).data.toList=L.data.toList:=by
      rw[Lib.extract_data,fF,BA,yD]
     simp only[EB,this]
  .simp at M
 .simp at M
def BC(z:Array Value)(n:Nat):(Builtin.zeroCells z n).toList.length=n*z.size:=by simp[Builtin.zeroCells]
def Jw{ty:TypeId}(hd:P.underlying t=some (.slice e))(m:P.underlying u=some C)(I:∀k,C≠.int k)(M:bR P e=some s)
 {a:Option Addr}{len cap:Nat} (Z:len+n<=cap) {nv:qE} (Y:(Builtin.lenOf K).run P w=.ok n w) (i:(Builtin.firstCells s n K).run P w=.ok nv.toArray w) :
 (Builtin.append_ #[t,u] ty #[.slice a len cap,K]).run P w=(match a with
   |some a=>((storeCells (a.add (len*s)) nv).run P w).andThen fun _ J=>.ok (.slice (some a) (len+n) cap) J
   |none=>.ok (.slice none (len+n) cap) w):=by
 have V:(match C with|.int _=>true |_=>false)=false:=by cases C<;>first|rfl|exact(I _ rfl).elim
 simp only[Builtin.append_];simp[dT hd,dT m,kT M,Y];rw[ay Z,i];cases a<;>simp
theorem Tf{ty:TypeId}(hd:P.underlying t=some (.slice e))(m:P.underlying u=some C)(Z:∀k,C≠.int k)(M:bR P e=some s)(o:dk P e=some b)
 {O:Value} (L:∀w,(zeroValue e).run P w=.ok O w)
 {a:Option Addr}{len cap:Nat} (Y:cap<len+n) (J:(len+n)*b<=dX) (I:len+n<=dX) {ov nv:qE} (j:(Builtin.lenOf K).run P w=.ok n w) (g:(Builtin.firstCells s n K).run P w.drew=.ok nv.toArray w.drew)
 (ho:(Builtin.firstCells s len (.slice a len cap)).run P w.drew=.ok ov.toArray w.drew) :
 (Builtin.append_ #[t,u] ty #[.slice a len cap,K]).run P w=.ok (.slice (some ⟨w.heap.size,0,none⟩) (len+n) (grownCap w (len+n) cap e))
   (w.drew.alloc (.cells (ov++nv++(Builtin.zeroCells O.cells (grownCap w (len+n) cap e-(len+n))).toList).toArray e)):=by
 have hz':(match C with|.int _=>true |_=>false)=false:=by cases C<;>first|rfl|exact(Z _ rfl).elim
 obtain⟨i,hi,z⟩:∃i,P.info? e=some i/\i.bytes=b:=by simpa [dk,pK]using o
 have hm:dX=70368744177664:=rfl;rw[hm]at J I;have V:¬(281474976710656<Builtin.nextslicecap (len+n) cap*b):=by
  have:=growslice_fits Y (bytes:=b) ac;omega
 have U:¬(9223372036854775807<((len:Int)+(n:Int))):=ac;have h1:¬(len+n<=cap):=ac;simp only[Builtin.append_];simp[dT hd,dT m,kT M,j,h1,tH hi,z,U,V,Question.forced,ho,g,L,newRow,grownCap]
 congr 2
 apply m1;simp
def R.heap(h:R B H w G)(e:w'.heap=w.heap):R B H w' G:=by
 have k:∀a,w'.cell? a=w.cell? a:=fun a=>by simp[World.cell?,e]
 have Z:∀a,w'.frozen? a=w.frozen? a:=fun a=>by simp[World.frozen?,e]
 exact{
  bw:=by rw[e];exact h.bw
  b3:=h.b3
  lt:=fun r b o x hr=>by rw[e];exact h.lt r b o x hr
  cells:=fun r b o x Y imm L hr hc j c m=>by rw[k];exact h.cells r b o x Y imm L hr hc j c m
  au:=h.au
  ext:=h.ext
  bm:=h.bm
  bh:=fun r b o x Y imm L hr hc j m z=>by rw[k,Z];exact h.bh r b o x Y imm L hr hc j m z
  apart:=h.apart
  map:=fun r b o x g hr hc=>by rw[e];exact h.map r b o x g hr hc
  aN:=h.aN
  b0:=fun b o v i=>by rw[k];exact h.b0 b o v i
  val:=h.val
  cj:=h.cj}
def Step.cl(h:Step B V G w.drew H' w' Z):Step B V G w H' w' Z:=
 ⟨h.r,h.ext,⟨h.fr.os,h.fr.tape,h.fr.output,h.fr.size,h.fr.block⟩,h.new,h.bP,h.mono,h.b4⟩
def jp.cT{o off len:Nat}(Z:jp G w b o cs)(Y:off+len*s=cs.length){cap:Nat}:
 ∃K,cp G (cs.drop off) K/\K.length=len*s/\∀J,(∀a,J.cell? a=w.cell? a)->(Builtin.firstCells s len (.slice (some ⟨b,o+off,none⟩) len cap)).run P J=.ok K.toArray J:=by
 obtain⟨vs,i,g⟩:=(Z.drop off).list;have z:vs.length=len*s:=by rw[<-i.1,kQ];omega
 exact⟨vs,i,z,fun J L=>EO J s len _ len cap vs z (fun j v m=>by rw[L,oc];exact g j v m)⟩
def Jx(h:iR P u=true):∃d,P.underlying u=some d/\∀k,d≠.int k:=by
 unfold iR at h;split at h
 .rename_i e hd;exact⟨_,hd,az⟩
 .rename_i hd;exact⟨_,hd,az⟩
 .simp at h
def Tg(h:R B H w G)(keep:Bool)(s:Nat)(sv:AV):Step B H.next G w (ii keep H s sv) w G:=by
 unfold ii;split
 .rename_i r off len z;split
  .rename_i cs imm hg;split
   .rename_i hc;simp only[co]at hc;have h1:off+len*s<cs.length:=by simpa [j8]using hc.1.2
    have h2:=yE hc.2;generalize off+len*s=m at h1 h2;have hgs:∀J b',(H.set r (.cells (cs.take m) imm true)).get J=some b'->(J=r/\b'=.cells (cs.take m) imm true)\/(J≠r/\H.get J=some b'):=fun J b' he=>by
     rw[a1]at he;split at he
     .rename_i e;simp only[aJ]at he;exact .inl ⟨e,he.symm⟩
     .rename_i e;exact .inr ⟨e,he⟩
    have U:∀J K Z Y,(H.set r (.cells (cs.take m) imm true)).get J=some (.cells K Z Y)->∃V,H.get J=some (.cells V Z Y)/\(∀(j:Nat) c,K[j]?=some c->V[j]?=some c)/\K.length<=V.length/\(∀x,eZ x K Y=eZ x V Y):=fun J K Z Y he=>by
     rcases hgs J _ he with⟨rfl,e⟩|⟨_,e⟩
     .simp only[HB.cells.injEq]at e;obtain⟨rfl,rfl,rfl⟩:=e;refine⟨cs,hg,fun j c I=>?_,vd,fun x=>rfl⟩;rw[rx]at I;split at I
      .exact I
      .simp at I
     .exact⟨K,e,fun _ _ h=>h,aO _,fun _=>rfl⟩
    refine⟨?_,wY _,yy _ _,u9 _ _,fun _ _ h=>.inl h,aO _,fun _ _ _ h=>.inl h⟩;exact{
     bw:=h.bw
     b3:=h.b3
     lt:=h.lt
     cells:=fun J b o x K Z Y hr L j c I=>by
      obtain⟨V,M,e2,_⟩:=U J K Z Y L;exact h.cells J b o x V Z Y hr M j c (e2 j c I)
     au:=fun J b o x K Z Y hr L j I hjl=>by
      obtain⟨V,M,_,e3,_⟩:=U J K Z Y L;exact h.au J b o x V Z Y hr M j I ac
     ext:=fun J b o x K Z Y hr L=>by
      obtain⟨V,M,_,e3,e4⟩:=U J K Z Y L;have:=h.ext J b o x V Z Y hr M;rw[e4];omega
     bm:=fun J b o x K Z Y hr L=>by
      obtain⟨V,M,_,e3,e4⟩:=U J K Z Y L;have:=h.bm J b o x V Z Y hr M;omega
     bh:=fun J b o x K Z Y hr L j I hjl=>by
      obtain⟨V,M,_,_,e4⟩:=U J K Z Y L;exact h.bh J b o x V Z Y hr M j I (by rw[<-e4];exact hjl)
     apart:=fun aK b1 o1 x1 cs1 i C bB b2 o2 x2 cs2 g tip2 hr1 hc1 hr2 O hne j j' q1 q2 q3 q4=>by
      obtain⟨cs01,M,_,_,e14⟩:=U aK cs1 i C hc1;obtain⟨cs02,e2,_,_,e24⟩:=U bB cs2 g tip2 O;exact h.apart aK b1 o1 x1 cs01 i C bB b2 o2 x2 cs02 g tip2 hr1 M hr2 e2 hne j j' q1 (by rw[<-e14];exact q2) q3 (by rw[<-e24];exact q4)
     map:=fun J b o x es hr L=>by
      rcases hgs J _ L with⟨_,e⟩|⟨_,e⟩
      .simp at e
      .exact h.map J b o x es hr e
     aN:=fun aK b1 o1 x1 es bB b2 o2 x2 hr1 hc1 hr2 O hne=>by
      rcases hgs aK _ hc1 with⟨_,e⟩|⟨_,e⟩
      .simp at e
      .refine h.aN aK b1 o1 x1 es bB b2 o2 x2 hr1 e hr2 ?_ hne;rw[a1]at O;split at O
       .rename_i e2;rw[e2,hg];rfl
       .exact O
     b0:=h.b0
     val:=h.val
     cj:=h.cj}
   .exact j9 h
  .exact j9 h
 .exact j9 h
structure zf1 (P:Program) (w:World) (t u ty e:TypeId) (s b:Nat) (xv:Value) (n:Nat) (nv:qE):Prop where
 fit:∀{a:Option Addr}{len cap:Nat},len+n<=cap->(Builtin.append_ #[t,u] ty #[.slice a len cap,xv]).run P w=(match a with
  |some a=>((storeCells (a.add (len*s)) nv).run P w).andThen fun _ w'=>.ok (.slice (some a) (len+n) cap) w'
  |none=>.ok (.slice none (len+n) cap) w)
 new:∀{zv:Value},(∀w,(zeroValue e).run P w=.ok zv w)->∀{a:Option Addr}{len cap:Nat}{ov:qE},cap<len+n->(len+n)*b<=dX->len+n<=dX->(Builtin.firstCells s len (.slice a len cap)).run P w.drew=.ok ov.toArray w.drew ->
  (Builtin.append_ #[t,u] ty #[.slice a len cap,xv]).run P w=.ok (.slice (some ⟨w.heap.size,0,none⟩) (len+n) (grownCap w (len+n) cap e))
    (w.drew.alloc (.cells (ov++nv++(Builtin.zeroCells zv.cells (grownCap w (len+n) cap e-(len+n))).toList).toArray e))
def Jy(h:R B H w G){keep:Bool}{ty:TypeId}{z I:qs}{nv:qE}{sv:AV}{svv xv:Value}(hs:bR P e=some s)(hb:dk P e=some b)(hz:cP P e=some z)(hzl:z.length=s)
 (hA:zf1 P w t u ty e s b xv n nv) (h1:cp G I nv) (h2:nv.length=n*s) (hn0:n≠0) (hone:I.all AV.one=true) (hsv:VR G sv svv) (U:mW keep (ii keep H s sv) s b sv n I=some (c,H')) :
 ∃v w' G',(Builtin.append_ #[t,u] ty #[svv,xv]).run P w=.ok v w'/\VR G' c v/\Step B H.next G w H' w' G':=by
 have hnl:I.length=n*s:=by rw[h1.1,h2]
 obtain⟨zv,hzr,hzv⟩:=w7 hz;have hzs:zv.cells.size=s:=by have:=(hzv G).1;rw[hzl]at this;simpa using this.symm
 have ht:=Tg h keep s sv
 suffices hgoal:∃v w' G',(Builtin.append_ #[t,u] ty #[svv,xv]).run P w=.ok v w'/\VR G' c v/\Step B (ii keep H s sv).next G w H' w' G' by
  obtain⟨v,w',G',g1,g2,g3⟩:=hgoal;exact⟨v,w',G',g1,g2,ht.trans g3⟩
 replace h:=ht.r;clear ht;generalize ii keep H s sv=H at U h⊢;unfold mW at U;split at U
 ·-- onto nil
  split at U
  .rename_i J;simp only[cO]at U;obtain⟨rfl,rfl⟩:=U;cases hsv;have Z:=hA.new hzr (a:=none) (len:=0) (cap:=0) (ov:=[]) ac (by simpa using J.1) (by simpa using J.2) (by simp[Builtin.firstCells]);have m:=Bp (h.heap (w':=w.drew) rfl) h1 (Builtin.zeroCells zv.cells (grownCap w (0+n) 0 e-(0+n))).toList e;have o:=grownCap_ge w (0+n) 0 e;refine⟨_,_,_,Z,?_,m.cl⟩;rw[bO]at o⊢;refine .sl (sr _ _ _) o ?_;rw[BC,hzs,h2];have:grownCap w n 0 e*s=n*s+(grownCap w n 0 e-n)*s:=Ev;simp;omega
  .simp at U
 ·-- onto a row of its own
  rename_i r off len zz;split at U
  .rename_i cs imm hg;split at U
   .rename_i hcond2;obtain⟨hr1,hr2,hend,rfl,himm⟩:=hcond2;cases hsv with
    |sl hr hlc hcx=>
     rename_i O i x0 cap;have hHolds:=h.cells _ _ _ _ _ _ _ hr hg;have hex:=h.ext _ _ _ _ _ _ _ hr hg;simp only[eZ]at hex;have hoff:off<=cs.length:=ac;obtain⟨ov,o1,o2,o3⟩:=hHolds.cT (P:=P) (off:=off) (s:=zz) (len:=len) hend (cap:=cap)
     have L:r≠H.next:=fun e=>by have:=h.b3 _ _ hr;omega
     by_cases M:len+n<=cap
     ·-- in its room
      have Z:=hA.fit (a:=some ⟨O,i+off,none⟩) M;simp only[]at Z;rw[oc,kO,hend]at Z;have hcap:(len+n)*zz<=cap*zz:=yw _ M;rw[nf]at hcap;cases keep with
      |false=>
       simp only[dC,bH,cO]at U;obtain⟨rfl,rfl⟩:=U;obtain⟨w',hw,V⟩:=EF P hr cs.length I nv cs 0 H w h hg h1 (h1.bz hone) ac ac yr az;rw[hw]at Z;simp only[fo]at Z;rw[tF,Jd]at V;have C:=Je V.r (r:=r) (cs:=cs++I) (imm:=imm) hr gL (off:=off) ca;refine⟨_,w',_,Z,?_,(V.trans C).congr rfl fun k _=>?_⟩
       .refine .sl (sr _ _ _) M ?_;omega
       .rw[aQ,aQ,hO,hO,a1,EP hoff];simp only[tG,bE];by_cases g:k=H.next
        .simp only[g,bC]
        .by_cases e2:k=r
         .simp only[e2,bC]
         .simp only[g,e2,bH]
      |true=>
       simp only[bC,cO]at U;obtain⟨rfl,rfl⟩:=U;have Y:=yB h hr hg (n:=cs.length) himm (aO _) true (fun _=>rfl);obtain⟨w',hw,V⟩:=EF P (G:=G.aD w O i cs.length) (r:=r) (imm:=cs.length) (tip:=true) hr cs.length I nv cs 0 _ w Y.r gL (h1.mono Y.ext) (h1.bz hone) ac ac yr az;rw[hw]at Z;simp only[fo]at Z;rw[tF,Jd]at V;have hgr:((H.set r (.cells cs cs.length true)).set r (.cells (cs++I) cs.length true)).get r=some (.cells (cs++I) cs.length true):=gL;have C:=Je V.r (r:=r) (cs:=cs++I) (imm:=cs.length) hr hgr (off:=off) ca;have hmid:=(Y.trans V).trans C;have hrr:((G.aD w O i cs.length).add H.next (O,i+off,x0-off)).β r=some (O,i,x0):=by
        simp only[Gh.add];rw[af L];exact hr
       have hnoMap:∀aK b1 o1 x1 es,((G.aD w O i cs.length).add H.next (O,i+off,x0-off)).β aK=some (b1,o1,x1) ->
        ((((H.set r (.cells cs cs.length true)).set r (.cells (cs++I) cs.length true)).aP r).alloc (.cells ((cs++I).drop off) (cs.length-off) true)).get aK=some (.map es)->b1≠O:=fun aK b1 o1 x1 es g1 g2=>by
        rw[aQ,hO,a1,a1]at g2;simp only[tG,bE]at g2;by_cases hne:aK=H.next
        .simp[hne]at g2
        .by_cases hne2:aK=r
         .simp[hne2]at g2
         .simp only[hne,hne2,bH]at g2;have g1':G.β aK=some (b1,o1,x1):=by simp only[Gh.add]at g1;rw[af hne]at g1;exact g1
          exact h.aN aK b1 o1 x1 es r O i x0 g1' g2 hr (by rw[hg];rfl) hne2
       have hHolds':jp ((G.aD w O i cs.length).add H.next (O,i+off,x0-off)) w' O i cs:=fun j c hj=>by
        have hjl:j<cs.length:=(eS.1 hj).1;have h5:=V.r.cells r O i x0 _ _ _ hr hgr j c (by rw[iw hjl];exact hj);obtain⟨v,q1,q2⟩:=h5;exact⟨v,q1,q2.mono C.ext⟩
       have hFF:∀j,j<cs.length->∃v,((G.aD w O i cs.length).add H.next (O,i+off,x0-off)).F O (i+j)=some v:=fun j hj=>
        Y.r.au r O i x0 cs cs.length true hr gL j hj hj
       have hrev:=SI hmid.r hrr (h.bm _ _ _ _ _ _ _ hr hg) hHolds' hFF hnoMap;refine⟨_,w',_,Z,?_,(hmid.trans hrev).congr rfl fun k _=>?_⟩
       .refine .sl (sr _ _ _) M ?_;omega
       .rw[a1,aQ,aQ,hO,a1,a1,a1,EP hoff];simp only[tG,bE];have:cs.length-off=len*zz:=ac;rw[this];by_cases g:k=r
        .subst g;simp only[L,bC,bH]
        .simp only[g,bH]
     ·-- a I row
      have hfit':cap<len+n:=ac;have Z:=hA.new hzr (a:=some ⟨O,i+off,none⟩) hfit' hr1 hr2 (o3 w.drew (fun _=>rfl));have o:=grownCap_ge w (len+n) cap e;have hlen2:(ov++nv).length=(len+n)*zz:=by rw[fg,o2,h2,nf]
      have hcapx:grownCap w (len+n) cap e*zz=(ov++nv).length+(Builtin.zeroCells zv.cells (grownCap w (len+n) cap e-(len+n))).toList.length:=by
       rw[BC,hzs,hlen2,<-nf];congr 1;omega
      have m:=(Bp (h.heap (w':=w.drew) rfl) (o1.append h1) (Builtin.zeroCells zv.cells (grownCap w (len+n) cap e-(len+n))).toList e).cl;have hnn:∀(X:HB) (k:Nat),k≠H.next->(H.alloc X).get k=H.get k:=fun X k hk=>by rw[aQ,af hk]
      have K:∀p,(G.add H.next p).β H.next=some p:=fun p=>sr _ _ _
      have hlenX:(cs.drop off++I).length=(len+n)*zz:=by rw[fg,kQ,hnl,nf];omega
      cases keep with
      |false=>
       simp only[dC,bH,cO]at U;obtain⟨rfl,rfl⟩:=U;have hk:=m.r.aP r;have hgx:((H.alloc (.cells (cs.drop off++I) 0 true)).aP r).get H.next=some (.cells (cs.drop off++I) 0 true):=by
        rw[hO,af (Ne.symm L),aQ,ay rfl]
       have Y:=yB hk (K _) hgx (n:=imm-off) (dN _) (by rw[hlenX,nf];omega) true (fun _=>rfl);have hst2:Step B H.next G w _ _ _:=⟨hk,m.ext,m.fr,m.new,m.bP,m.mono,m.b4⟩
       refine⟨_,_,_,Z,?_,(hst2.trans Y).congr rfl fun k _=>?_⟩
       .exact .sl (K _) o ac
       .rw[a1,aQ,hO,hO,aQ];simp only[tG];by_cases g:k=H.next
        .simp only[g,bC]
        .simp only[g,bH]
      |true=>
       simp only[bC,cO]at U;obtain⟨rfl,rfl⟩:=U;have hgx:(H.alloc (.cells (cs.drop off++I) 0 true)).get H.next=some (.cells (cs.drop off++I) 0 true):=gD
       have Y:=yB m.r (K _) hgx (n:=len*zz) (dN _) (by rw[hlenX,nf];omega) true (fun _=>rfl);have hgr:((H.alloc (.cells (cs.drop off++I) 0 true)).set H.next (.cells (cs.drop off++I) (len*zz) true)).get r=some (.cells cs imm true):=by
        rw[a1,af L,hnn _ _ L];exact hg
       have hice2:=yB Y.r (r:=r) (by
        show(G.add H.next _).β r=_;simp only[Gh.add];rw[af L];exact hr) hgr (n:=cs.length) himm (aO _) false az
       refine⟨_,_,_,Z,?_,((m.trans Y).trans hice2).congr rfl fun k _=>?_⟩
       .exact .sl (K _) o ac
       .rw[a1,a1,aQ,aQ,a1];simp only[bE];by_cases g:k=H.next
        .have e3:¬H.next=r:=fun e=>L e.symm
         simp only[g,e3,bC,bH]
        .simp only[g,bH]
   .simp at U
  .simp at U
 .simp at U
theorem Th{ty:TypeId}{k k':IntKind}(hd:P.underlying t=some (.slice e))(hu:P.underlying u=some (.int k'))(hs:bR P e=some s)(hb:dk P e=some b)
  (L:∀w,(zeroValue e).run P w=.ok Y w) (K:Y.cells.size=s)  (h1:n*b<=dX) (h2:n<=dX) :
 zf1 P w t u ty e s b (.int k (n:Int)) n (Builtin.zeroCells Y.cells n).toList:=by
 obtain⟨i,hi,z⟩:∃i,P.info? e=some i/\i.bytes=b:=by simpa [dk,pK]using hb
 have hm:dX=70368744177664:=rfl;rw[hm]at h1 h2;have O:IntKind.i64.wrap (n:Int)=n:=by
  unfold IntKind.wrap;simp[IntKind.signed,IntKind.bits];omega
 have M:¬((n:Int)<0):=ac;have m:¬(281474976710656<(n:Int)*(b:Int)):=by
  have:(n:Int)*(b:Int)=((n*b:Nat):Int):=by push_cast;rfl
  omega
 have V:n*s=0->(Builtin.zeroCells Y.cells n).toList=[]:=fun e=>Ju (by rw[BC,K,e]);have U:∀w,(asInt (.int k (n:Int))).run P w=.ok (n:Int) w:=fun w=>by simp[asInt,asIntOf]
 refine⟨fun{a o j} Z=>?_,fun{C} g {a o j ov} Z J I ho=>?_⟩
 .simp only[Builtin.append_];simp[dT hd,dT hu,kT hs,tH hi,z,U,O,M,m,L];rw[ay Z];by_cases e:n*s=0
  .rw[ay e,V e];cases a<;>simp
  .rw[af e];cases a<;>simp
 .obtain rfl:C=Y:=by
   have:=(g w).symm.trans (L w);simpa using this
  rw[hm]at J I;have h48:¬(281474976710656<Builtin.nextslicecap (o+n) j*b):=by
   have:=growslice_fits Z (bytes:=b) ac;omega
  have h63:¬(9223372036854775807<((o:Int)+(n:Int))):=ac;have h1':¬(o+n<=j):=ac;simp only[Builtin.append_];simp[dT hd,dT hu,kT hs,tH hi,z,U,O,M,m,h1',h63,h48,Question.forced,ho,L,newRow,grownCap];by_cases e0:n*s=0
  .rw[ay e0,V e0]
   congr 3
   apply m1;simp
  .rw[af e0]
   congr 3
   apply m1;simp
theorem Jz{z:qs}(h:z.all AV.one=true):∀n,(jB z n).all AV.one=true
 |0=>rfl
 |n+1=>by rw[jB,xd,h,Jz h n];rfl
def Ti(h:R B H w G){keep:Bool}{ty:TypeId}{sv:AV}{M xv:Value}(O:VR G sv M)(hx:VR G x xv)(j:dm P keep H t u sv x=some (c,H')):
 ∃v w' G',(Builtin.append_ #[t,u] ty #[M,xv]).run P w=.ok v w'/\VR G' c v/\Step B H.next G w H' w' G':=by
 unfold dm at j;split at j
 .rename_i e hd;split at j
  .rename_i s b z J hb hz;split at j
   .rename_i AR L o;obtain⟨du,i,Y⟩:=Jx L;obtain⟨nv,h1,h2,h3,h4⟩:=EQ (P:=P) h hx o;have hnv:nv=[]:=by rw[ve]at h2;exact Jv.1 h2
    subst hnv;have Z:∀a len cap,M=.slice a len cap->len<=cap->(Builtin.append_ #[t,u] ty #[M,xv]).run P w=.ok M w:=fun a len cap e I=>by
     subst e;rw[Jw hd i Y J (n:=0) ac (h3 w) (h4 w (fun _=>rfl))];cases a<;>simp[storeCells]
    split at j
    .simp only[cO]at j;obtain⟨rfl,rfl⟩:=j;refine⟨M,w,G,?_,O,j9 h⟩;cases O with
     |sl hr hl hc=>exact Z _ _ _ rfl hl
    .simp only[cO]at j;obtain⟨rfl,rfl⟩:=j;refine⟨M,w,G,?_,O,j9 h⟩;cases O with
     |ao vs hz hF hv hc=>exact Z _ _ _ rfl hc
     |bU a cap=>exact Z _ _ _ rfl (dN _)
    .simp only[cO]at j;obtain⟨rfl,rfl⟩:=j;refine⟨M,w,G,?_,O,j9 h⟩;cases O with
     |ah=>exact Z _ _ _ rfl (aO _)
    .simp at j
   .rename_i n new hnz L o;obtain⟨du,i,Y⟩:=Jx L;obtain⟨nv,h1,h2,h3,h4⟩:=EQ (P:=P) h hx o;have hn0:n≠0:=fun e=>by subst e;exact hnz rfl
    split at j
    .rename_i V;exact Jy h J hb hz V.2 ⟨fun I=>Jw hd i Y J I (h3 w) (h4 w (fun _=>rfl)),fun{g} U {a len cap ov} I hr1 hr2 ho=>Tf hd i Y J hb U I hr1 hr2 (h3 w) (h4 w.drew (fun _=>rfl)) ho⟩ h1 h2 hn0 V.1 O j
    .simp at j
   .unfold I6 at j;split at j
    .rename_i k' k m i _ _;split at j
     .rename_i V;obtain⟨hc1,hc2,C,hc4⟩:=V;obtain⟨g,U,hzv⟩:=w7 hz;have K:g.cells.size=s:=by have:=(hzv G).1;rw[C]at this;simpa using this.symm
      cases hx;have hA:=Th (P:=P) (w:=w) (t:=t) (ty:=ty) (k:=k) hd i J hb U K hc1 hc2;have hzn:∀n,cp G (jB z n) (Builtin.zeroCells g.cells n).toList:=fun n=>by
       have:=EL (hzv G) n;unfold Builtin.zeroCells;have e:z.length=g.cells.size:=by rw[C,K]
       rw[e]at this;exact this
      split at j
      .have hz0:(Builtin.zeroCells g.cells 0).toList=[]:=by simp[Builtin.zeroCells]
       have Z:∀a len cap,M=.slice a len cap->len<=cap->(Builtin.append_ #[t,u] ty #[M,.int k (Int.ofNat 0)]).run P w=.ok M w:=fun a len cap e I=>by
        subst e;have:=hA.fit (a:=a) (len:=len) (cap:=cap) ac;rw[hz0]at this;refine Eq.trans this ?_;cases a<;>simp[storeCells]
       split at j
       .simp only[cO]at j;obtain⟨rfl,rfl⟩:=j;refine⟨M,w,G,?_,O,j9 h⟩;cases O with
        |sl hr hl hc=>exact Z _ _ _ rfl hl
       .simp only[cO]at j;obtain⟨rfl,rfl⟩:=j;refine⟨M,w,G,?_,O,j9 h⟩;cases O with
        |ao vs hz hF hv hc=>exact Z _ _ _ rfl hc
        |bU a cap=>exact Z _ _ _ rfl (dN _)
       .simp only[cO]at j;obtain⟨rfl,rfl⟩:=j;refine⟨M,w,G,?_,O,j9 h⟩;cases O with
        |ah=>exact Z _ _ _ rfl (aO _)
       .simp at j
      .rename_i m;exact Jy h J hb hz C hA (hzn _) (by rw[BC,K]) ac (Jz hc4 _) O j
     .simp at j
    .simp at j
  .simp at j
 .simp at j
end
section
variable {P:Program} {B:Bs} {G:Gh} {H H':Hp} {w:World}
def Tj(j:ByteArray):j.data.toList.length=j.size:=by show j.data.toList.length=j.data.size;simp
def JA(h:R B H w G){m:AV}{mv:Value}{g:qL}(O:VR G m mv)(j:uS H m=some g):
 (mv=.map none/\g=[])\/∃r b o x ms C,m=.map r/\mv=.map (some b)/\G.β r=some (b,o,x)/\H.get r=some (.map g)/\w.heap[b]?=some (.map ms C)/\sm G g ms.toList:=by
 unfold uS at j;split at j
 .simp only[aJ]at j;subst j;cases O;exact .inl ⟨rfl,rfl⟩
 .rename_i r;split at j
  .rename_i Z J;simp only[aJ]at j;subst j;cases O with
   |map hr=>
    rename_i b o x;obtain⟨ms,C,i,Y⟩:=h.map r b o x _ hr J;exact .inr ⟨r,b,o,x,ms,C,rfl,rfl,hr,J,i,Y⟩
  .simp at j
 .simp at j
def yG{ms:Array MapEntry}{C:Nat}(h:w.heap[b]?=some (.map ms C)):(getObj b).run P w=.ok (.map ms C) w:=by
 simp[getObj,Sem.run,h]
def Tl(h:R B H w G){ty:TypeId}(I:VR G x Y)(K:ij P H t x=some c):∃v,(Builtin.len_ #[t] ty #[Y]).run P w=.ok v w/\VR G c v:=by
 unfold ij at K;split at K
 .rename_i hd;split at K
  .simp only[aJ]at K;subst K;cases I with
   |ai U _ M=>
    subst M;refine⟨_,?_,.int _ _⟩;rw[Tj];simp[Builtin.len_,dT hd,goInt]
  .simp at K
 .rename_i e hd;split at K
  .simp only[aJ]at K;subst K;cases I;exact⟨_,yC,.int _ _⟩
  .simp only[aJ]at K;subst K;cases I
   .exact⟨_,yC,.int _ _⟩
   .exact⟨_,yC,.int _ _⟩
  .simp only[aJ]at K;subst K;cases I;exact⟨_,yC,.int _ _⟩
  .simp at K
 .rename_i n e hd;simp only[aJ]at K;subst K;refine⟨.int .i64 n,?_,.int _ _⟩;simp only[Builtin.len_];simp[dT hd,goInt]
 .rename_i m e hd;split at K
  .rename_i g j;simp only[aJ]at K;subst K;rcases JA h I j with⟨rfl,rfl⟩|⟨r,b,o,V,ms,C,rfl,rfl,hr,J,L,Z⟩
   .exact⟨_,yC,.int _ _⟩
   .refine⟨.int .i64 g.length,?_,.int _ _⟩;have:ms.size=g.length:=by have:=Z.1;simpa using this.symm
    simp[Builtin.len_,dT hd,yG L,goInt,this]
  .simp at K
 .simp at K
def Tm{V:Bool}(I:VR G x K)(Y:VR G y g)(h:mm V x y=some c):∃v,((if V then Builtin.max2 else Builtin.min2) K g).run P w=.ok v w/\VR G c v:=by
 unfold mm at h;split at h
 .simp only[aJ]at h;subst h;cases I;cases Y;cases V
  .refine⟨_,rfl,?_⟩;simp only[dC,bH,jq];exact .int _ _
  .refine⟨_,rfl,?_⟩;simp only[bC,jq];exact .int _ _
 .simp at h
theorem ER{V:Bool}:∀{U:qs}{K:qE}{x c:AV}{Z:Value},VR G x Z->cp G U K->tu V x U=some c ->
 ∃v,(K.foldlM (if V then Builtin.max2 else Builtin.min2) Z).run P w=.ok v w/\VR G c v
 |[],K,x,c,Z,hx,hxs,h=>by
  simp only[tu,aJ]at h;subst h;have:K=[]:=by have:=hxs.1;simpa using this.symm
  subst this;exact⟨Z,rfl,hx⟩
 |y::ys,[],_,_,_,_,hxs,_=>by have:=hxs.1;simp at this
 |y::ys,yv::yvs,x,c,Z,hx,hxs,h=>by
  obtain⟨i,g⟩:=hxs.aX;simp only[tu]at h;split at h
  .rename_i z I;obtain⟨M,Y,O⟩:=Tm (P:=P) (w:=w) hx i I;obtain⟨v,k1,k2⟩:=ER O g h;exact⟨v,by rw[List.foldlM_cons,fh,Y];exact k1,k2⟩
  .simp at h
def ES(h:oO P t=some d):P.underlying t=some d/\((∃k,d=.int k)\/d=.string\/d=.bool):=by
 unfold oO at h;split at h<;>simp only[aJ,reduceCtorEq]at h<;>subst h
 .rename_i k hd;exact⟨hd,.inl ⟨k,rfl⟩⟩
 .rename_i hd;exact⟨hd,.inr (.inl rfl)⟩
 .rename_i hd;exact⟨hd,.inr (.inr rfl)⟩
def ET{r:Bool}(I:VR G x K)(Y:VR G y g)(h:oN d x y=some r):Instr.sameNow d K g=some r:=by
 unfold oN at h;split at h
 .split at h
  .cases I;cases Y;exact h
  .simp at h
 .split at h
  .cases I with
   |ai a _ j=>cases Y with
    |ai b _ o=>
     subst j o;simp only[aJ]at h;subst h;simp only[Instr.sameNow,aJ];show(a.data == b.data)=(a.data.toList == b.data.toList);rw[Bn];simp only[oW,Array.toList_inj]
  .simp at h
 .split at h
  .cases I;cases Y;exact h
  .simp at h
 .simp at h
theorem EU{d:TypeDesc}{k:AV}{kv:Value}(Y:VR G k kv):∀{g:qL}{ms:List MapEntry}{i:Nat},sm G g ms ->
 (fD d k g i=some none->Instr.findNow d kv ms i=some none) /\
 (∀j v,fD d k g i=some (some (j,v))->∃k' m,g[j-i]?=some (k',v)/\ms[j-i]?=some m/\i<=j/\oN d k k'=some true/\Instr.findNow d kv ms i=some (some (j,m.val)))
 |[],ms,i,he=>by
  have:ms=[]:=by have:=he.1;simpa using this.symm
  subst this;exact⟨fun _=>rfl,fun j v h=>by simp[fD]at h⟩
 |e::g,[],i,he=>by have:=he.1;simp at this
 |(k',z)::g,m::ms,i,he=>by
  obtain⟨V,h2⟩:=he.2 0 (k',z) m rfl rfl;have L:sm G g ms:=⟨by simpa using he.1,fun j a b U O=>he.2 (j+1) a b (by simpa using U) (by simpa using O)⟩;obtain⟨aK,bB⟩:=EU (d:=d) Y (i:=i+1) L;constructor
  .intro h;simp only[fD]at h;split at h
   .simp at h
   .rename_i Z;have:=ET Y V Z;simp only[Instr.findNow,this];exact aK h
   .simp at h
  .intro j v h;simp only[fD]at h;split at h
   .rename_i Z;simp only[cO]at h;obtain⟨rfl,rfl⟩:=h;have:=ET Y V Z;exact⟨k',m,az,az,aO _,Z,by simp only[Instr.findNow,this]⟩
   .rename_i Z;have:=ET Y V Z;obtain⟨k2,C,K,M,g3,J,I⟩:=bB j v h;have o:j-i=(j-(i+1))+1:=ac;refine⟨k2,C,by rw[o];simpa using K,by rw[o];simpa using M,ac,J,?_⟩;simp only[Instr.findNow,this];exact I
   .simp at h
theorem Tn(n:Nat)(hd:oO P m=some d)(e:Bool)(kv:Value):(Instr.checkKey e (n+1) m kv).run P w=.ok () w:=by
 obtain⟨i,g⟩:=ES hd;simp only[Instr.checkKey,fh,dT i,fo];rcases g with⟨k,rfl⟩|rfl|rfl<;>rfl
def yH(hd:oO P m=some d)(e:Bool)(kv:Value):(Instr.checkKey e 10000 m kv).run P w=.ok () w:=Tn 9999 hd e kv
def yI(hd:P.underlying m=some d){kv:Value}{ms:List MapEntry}{r:Option (Nat×Value)}(h:Instr.findNow d kv ms 0=some r):(Instr.findKey m kv ms).run P w=.ok r w:=by
 simp[Instr.findKey,dT hd,h]
def To(hd:P.underlying t=some (.map m e))(Y:oO P m=some d){mv kv:Value}{ok:Bool}{ms:Array MapEntry}
 (O:(mv=.map none/\ms=#[])\/∃b C,mv=.map (some b)/\w.heap[b]?=some (.map ms C)) :
 (∀j v,Instr.findNow d kv ms.toList 0=some (some (j,v))->(Instr.lookup t mv kv ok).run P w=.ok (if ok then .tuple #[v,.bool true]else v) w) /\
 (∀Z,(zeroValue e).run P w=.ok Z w->Instr.findNow d kv ms.toList 0=some none->(Instr.lookup t mv kv ok).run P w=.ok (if ok then .tuple #[Z,.bool false]else Z) w):=by
 have J:=(ES Y).1;rcases O with⟨rfl,rfl⟩|⟨b,C,rfl,L⟩
 .refine⟨fun j v i=>by simp[Instr.findNow]at i,fun Z I i=>?_⟩;have z:=yI (P:=P) (w:=w) J i;simp only[Instr.lookup,fh,dT hd,fo,kR,yH Y,z,I]
 .refine⟨fun j v i=>?_,fun Z I i=>?_⟩
  .have z:=yI (P:=P) (w:=w) J i;simp only[Instr.lookup,fh,dT hd,fo,yG L,kR,yH Y,z]
  .have z:=yI (P:=P) (w:=w) J i;simp only[Instr.lookup,fh,dT hd,fo,yG L,kR,yH Y,z,I]
def Tp(h:R B H w G){m:AV}{mv kv:Value}{ok:Bool}(I:VR G m mv)(z:VR G k kv)(K:lO P H t m k ok=some c):
 ∃v,(Instr.lookup t mv kv ok).run P w=.ok v w/\VR G c v:=by
 unfold lO at K;split at K
 .rename_i kt e hd;split at K
  .rename_i g U Y Z;obtain⟨ms,M,L⟩:∃ms:Array MapEntry,((mv=.map none/\ms=#[])\/∃b C,mv=.map (some b)/\w.heap[b]?=some (.map ms C))/\sm G g ms.toList:=by
    rcases JA h I Y with⟨rfl,rfl⟩|⟨r,b,o,xx,ms,C,rfl,rfl,hr,hg,hw,he⟩
    .exact⟨#[],.inl ⟨rfl,rfl⟩,rfl,az⟩
    .exact⟨ms,.inr ⟨b,C,rfl,hw⟩,he⟩
   obtain⟨f1,f2⟩:=EU (d:=U) z (i:=0) L;obtain⟨aK,bB⟩:=To (kv:=kv) (ok:=ok) hd Z M;split at K
   .rename_i j v O;simp only[aJ]at K;subst K;obtain⟨k',m',g1,g2,_,_,g5⟩:=f2 j v O;have V:=(L.2 _ _ _ g1 g2).2;refine⟨_,aK _ _ g5,?_⟩;cases ok
    .exact V
    .exact .aS (vs:=[m'.val,.bool true]) rfl (mD V (mD (.bool true) (rz _))).2
   .rename_i O;split at K
    .rename_i v V;simp only[aJ]at K;subst K;obtain⟨zv,z1,J⟩:=SJ V;refine⟨_,bB _ (z1 w) (f1 O),?_⟩;cases ok
     .exact J G
     .exact .aS (vs:=[zv,.bool false]) rfl (mD (J G) (mD (.bool false) (rz _))).2
    .simp at K
   .simp at K
  .simp at K
 .simp at K
end
section
variable {P:Program} {B:Bs} {G:Gh} {H H':Hp} {w:World}
def JB(h:R B H w G){r o x:Nat}{es m:qL}{ms':Array MapEntry}{clock':Nat}(hr:G.β r=some (b,o,x))(hg:H.get r=some (.map es))(he:sm G m ms'.toList):
 Step B H.next G w (H.set r (.map m)) {w with heap:=w.heap.setIfInBounds b (.map ms' clock') } G:=by
 obtain⟨ms,clock,hw,_⟩:=h.map r b o x es hr hg;have hb:b<w.heap.size:=(h.lt r b o x hr).2
 let w':World:={w with heap:=w.heap.setIfInBounds b (.map ms' clock') }
 have z:∀k,k≠b->w'.heap[k]?=w.heap[k]?:=fun k Y=>by
  show(w.heap.setIfInBounds b _)[k]?=_;rw[u7,af (Ne.symm Y)]
 have hheapb:w'.heap[b]?=some (.map ms' clock'):=by
  show(w.heap.setIfInBounds b _)[b]?=_;simp[hb]
 have J:∀I Z v,w.cell? ⟨I,Z,none⟩=some v->I≠b:=fun I Z v hc e=>by
  subst e;unfold World.cell? at hc;rw[hw]at hc;simp at hc
 have V:∀I Z v,w.cell? ⟨I,Z,none⟩=some v->w'.cell? ⟨I,Z,none⟩=some v:=fun I Z v hc=>by
  rw[World.cell?_of_block (w:=w) (z I (J I Z v hc))];exact hc
 have U:∀k,k≠r->(H.set r (.map m)).get k=H.get k:=fun k Y=>by rw[a1,af Y]
 have M:(H.set r (.map m)).get r=some (.map m):=gL;refine⟨?_,wY _,⟨rfl,rfl,rfl,az,fun k Y hn=>z k (fun e=>hn r b o x hr e.symm)⟩,u9 _ _,fun _ _ h=>.inl h,aO _,fun _ _ _ h=>.inl h⟩;exact{
  bw:=by have:=h.bw;simpa using this
  b3:=h.b3
  lt:=fun r b o x hr=>by have:=h.lt r b o x hr;simpa using this
  cells:=fun k I Z O C imm L Y hc=>by
   by_cases e:k=r
   .subst e;rw[M]at hc;simp at hc
   .rw[U k e]at hc;intro j c hj;obtain⟨v,h1,h2⟩:=h.cells k I Z O C imm L Y hc j c hj;exact⟨v,V _ _ _ h1,h2⟩
  au:=fun k I Z O C imm L Y hc=>by
   by_cases e:k=r
   .subst e;rw[M]at hc;simp at hc
   .rw[U k e]at hc;exact h.au k I Z O C imm L Y hc
  ext:=fun k I Z O C imm L Y hc=>by
   by_cases e:k=r
   .subst e;rw[M]at hc;simp at hc
   .rw[U k e]at hc;exact h.ext k I Z O C imm L Y hc
  bm:=fun k I Z O C imm L Y hc=>by
   by_cases e:k=r
   .subst e;rw[M]at hc;simp at hc
   .rw[U k e]at hc;exact h.bm k I Z O C imm L Y hc
  bh:=fun k I Z O C imm L Y hc j hj hjl=>by
   by_cases e:k=r
   .subst e;rw[M]at hc;simp at hc
   .rw[U k e]at hc;obtain⟨⟨v,h1⟩,h2,h3⟩:=h.bh k I Z O C imm L Y hc j hj hjl;refine⟨⟨v,V _ _ _ h1⟩,?_,h3⟩;rw[World.frozen?_of_block (w:=w) (z I (J _ _ _ h1))];exact h2
  apart:=fun k1 b1 o1 x1 cs1 imm1 tip1 k2 b2 o2 x2 cs2 imm2 tip2 i K g hc2=>by
   by_cases e1:k1=r
   .subst e1;rw[M]at K;simp at K
   .by_cases e2:k2=r
    .subst e2;rw[M]at hc2;simp at hc2
    .rw[U k1 e1]at K;rw[U k2 e2]at hc2;exact h.apart k1 b1 o1 x1 cs1 imm1 tip1 k2 b2 o2 x2 cs2 imm2 tip2 i K g hc2
  map:=fun k I Z O es1 Y hc=>by
   by_cases e:k=r
   .subst e;have hk':=Y;rw[hr]at hk';simp only[cO]at hk';obtain⟨rfl,rfl,rfl⟩:=hk';rw[M]at hc;simp only[aJ,HB.map.injEq]at hc;subst hc;exact⟨ms',clock',hheapb,he⟩
   .rw[U k e]at hc;obtain⟨ms1,clock1,h1,h2⟩:=h.map k I Z O es1 Y hc;refine⟨ms1,clock1,?_,h2⟩;rw[z I (fun eb=>h.aN k I Z O es1 r b o x Y hc hr (by rw[hg];rfl) e eb)];exact h1
  aN:=fun k1 b1 o1 x1 es1 k2 b2 o2 x2 i K g hs hne=>by
   have hs':(H.get k2).isSome:=by
    by_cases e2:k2=r
    .subst e2;rw[hg];rfl
    .rw[U k2 e2]at hs;exact hs
   by_cases e1:k1=r
   .subst e1;exact h.aN k1 b1 o1 x1 es k2 b2 o2 x2 i hg g hs' hne
   .rw[U k1 e1]at K;exact h.aN k1 b1 o1 x1 es1 k2 b2 o2 x2 i K g hs' hne
  b0:=fun I Z v hf=>V _ _ _ (h.b0 I Z v hf)
  val:=h.val
  cj:=h.cj}
def JC{ms ms':Array MapEntry}{C clock':Nat}(h:w.heap[b]?=some (.map ms C)):
 (setObj b (.map ms' clock')).run P w=.ok () {w with heap:=w.heap.setIfInBounds b (.map ms' clock') }:=by
 simp[setObj,Sem.run,h]
def Tq(n:Nat)(I:VR G x K)(Y:VR G y g)(h:oN d x y=some true):Instr.sameBits n g K=true:=by
 unfold oN at h;split at h
 .split at h
  .split at h
   .rename_i e;subst e;cases I;cases Y;simp only[aJ,oW]at h;subst h;cases n<;>simp[Instr.sameBits]
   .simp at h
  .simp at h
 .split at h
  .cases I with
   |ai a _ j=>cases Y with
    |ai b _ o=>
     subst j o;simp only[aJ,oW]at h;have Z:(b == a)=true:=by
      show(b.data == a.data)=true;simp only[oW];exact(m1 h).symm
     cases n<;>simp[Instr.sameBits,Z]
  .simp at h
 .split at h
  .cases I;cases Y;simp only[aJ,oW]at h;subst h;cases n<;>simp[Instr.sameBits]
  .simp at h
 .simp at h
theorem Tr{old I:Value}(h:Instr.sameBits 10000 old I=true):(Instr.keyThatStays old I).run P w=.ok I w:=by
 unfold Instr.keyThatStays;rw[ay h];rfl
def Ts(h:R B H w G){m:AV}{mv kv vv:Value}(hm:VR G m mv)(L:VR G k kv)(hv:VR G v vv)(V:oP P H t m k v=some H'):
 ∃w',(Instr.mapUpdate t mv kv vv).run P w=.ok () w'/\Step B H.next G w H' w' G:=by
 unfold oP at V;split at V
 .rename_i kt e hd;split at V
  .rename_i r U Y;split at V
   .rename_i es hg;cases hm with
    |map hr=>
     rename_i b o x;obtain⟨ms,C,g,K⟩:=h.map r b o x es hr hg;obtain⟨f1,f2⟩:=EU (d:=U) L (i:=0) K;have J:=(ES Y).1;split at V
     .rename_i j v0 hf;simp only[aJ]at V;subst V;obtain⟨k',m',g1,g2,_,g4,g5⟩:=f2 j v0 hf;simp only[BA]at g1 g2;have hjl:j<ms.size:=by have:=(eS.1 g2).1;simpa using this
      have O:ms[j]?=some m':=by simpa using g2
      have I:=Tq 10000 L (K.2 j _ _ g1 g2).1 g4;have z:=yI (P:=P) (w:=w) J g5;refine⟨_,?_,JB h hr hg (ms':=ms.modify j fun e=>{e with key:=kv,val:=vv}) (clock':=C) ?_⟩
      .simp only[Instr.mapUpdate,fh,dT hd,fo,yG g,yH Y,z,O,jo,bS,Tr I,JC g]
      .refine⟨by have:=K.1;simpa using this,fun i a c Z hc=>?_⟩;rw[BB]at Z;rw[yF,Array.getElem?_modify]at hc;by_cases e:j=i
       .subst e;rw[ay rfl]at hc;rw[ay rfl]at Z;split at Z
        .simp only[aJ]at Z;subst Z;rw[O]at hc;simp only[jo,aJ]at hc;subst hc;exact⟨L,hv⟩
        .simp at Z
       .rw[af e]at Z hc;exact K.2 i a c Z Bj
     .rename_i hf;simp only[aJ]at V;subst V;have z:=yI (P:=P) (w:=w) J (f1 hf);refine⟨_,?_,JB h hr hg (ms':=ms.push {key:=kv,val:=vv,born:=C}) (clock':=C+1) ?_⟩
      .simp only[Instr.mapUpdate,fh,dT hd,fo,yG g,yH Y,z,JC g]
      .refine⟨by have:=K.1;simpa using this,fun i a c Z hc=>?_⟩;rw[Array.toList_push]at hc;have hl:=K.1;by_cases hi:i<es.length
       .rw[iw hi]at Z;rw[iw ac]at hc;exact K.2 i a c Z hc
       .rw[kN ac]at Z;rw[kN ac]at hc;rw[<-hl]at hc;cases M:i-es.length with
        |zero=>
         rw[M]at Z hc;simp at Z hc;subst Z hc;exact⟨L,hv⟩
        |succ n=>rw[M]at Z;simp at Z
     .simp at V
   .simp at V
  .simp at V
 .simp at V
theorem JD:∀{Y:qs}{bs:qw}{vs:qE},uT Y=some bs->cp G Y vs->∃M:qu,vs=M.map (Value.int .u8)/\bs=M.map fun n=>UInt8.ofNat n.toNat
 |[],bs,vs,h,hv=>by
  simp only[uT,aJ]at h;subst h;have:vs=[]:=by have:=hv.1;simpa using this.symm
  subst this;exact⟨[],rfl,rfl⟩
 |c::Y,bs,[],h,hv=>by have:=hv.1;simp at this
 |c::Y,bs,v::vs,h,hv=>by
  obtain⟨i,Z⟩:=hv.aX;unfold uT at h;split at h
  .rename_i e;simp at e
  .rename_i n K e;simp only[dR]at e;obtain⟨rfl,rfl⟩:=e;split at h
   .rename_i g o;simp only[aJ]at h;subst h;obtain⟨M,rfl,rfl⟩:=JD o Z;cases i;exact⟨n::M,rfl,rfl⟩
   .simp at h
  .simp at h
def Tt(ns:qu):∀s:ByteArray,(ns.foldl (fun r n=>r.push (UInt8.ofNat n.toNat)) s).data.toList=s.data.toList++ns.map fun n=>UInt8.ofNat n.toNat:=by
 induction ns with
 |nil=>intro s;simp
 |cons n ns ih=>intro s;rw[List.foldl_cons,ih];simp[ByteArray.push]
def Tu(h:R B H w G){Z:TypeId}{J:Value}(I:VR G x J)(V:lP P H m Z x=some c):∃v,(convert m Z J).run P w=.ok v w/\VR G c v:=by
 unfold lP at V;split at V
 .rename_i e M hd;split at V
  .rename_i j;split at V
   .rename_i n cs Y;split at V
    .rename_i bs C;obtain⟨nv,h1,h2,z,h4⟩:=EQ (P:=P) h I Y;obtain⟨L,O,rfl⟩:=JD C h1;split at V
     .simp only[aJ]at V;subst V;cases I with
      |sl hr hl hcx=>
       rename_i b o xx g;have U:=z w;simp[Builtin.lenOf]at U;subst U;have i:=h4 w (fun _=>rfl);simp only[Builtin.firstCells,lW]at i;rw[O]at i;refine⟨_,by rw[run_convert_bytes_string w m Z e _ _ _ M j hd,run_bytesToString w _ _ _ L i],.ai _ _ ?_⟩;rw[Tt];rfl
     .simp only[aJ]at V;subst V;cases I;have U:=z w;simp[Builtin.lenOf]at U;have:L=[]:=by
       have e1:(L.map (Value.int .u8)).length=0:=by rw[<-O,h2,<-U]
       simpa using e1
      subst this;refine⟨.string .empty,?_,.ai _ _ rfl⟩;rw[run_convert_bytes_string w m Z e _ _ _ M j hd];rfl
     .simp at V
    .simp at V
   .simp at V
  .simp at V
 .rename_i ds k hn M hd;split at V
  .simp only[aJ]at V;subst V;cases I;refine⟨_,?_,.int _ _⟩;simp[convert,dT M,dT hd,Conv.intToInt]
  .simp only[aJ]at V;subst V;cases I;rename_i k0 e0;refine⟨_,?_,.sx _ _⟩;simp[convert,dT M,dT hd,Conv.intToInt,Sx.eval]
  .simp at V
 .rename_i hn M hd;split at V
  .simp only[aJ]at V;subst V;have K:=I;cases I with
   |ai sv _ j=>
    refine⟨.string sv,?_,K⟩;simp[convert,dT M,dT hd]
  .simp at V
 .simp at V
end
section
variable {P:Program} {B:Bs} {G:Gh} {H H':Hp} {w:World}
def vh(G:Gh)(E:aB)(a:Act)(xs:Array Operand):Prop:=∀x∈xs,∀c,aV E x=some c->VR G c (a.eval x)
theorem BD{E:aB}{a:Act}:∀{U:List Operand}{Y:qs},(∀x∈U,∀c,aV E x=some c->VR G c (a.eval x))->iQ E U=some Y->cp G Y (U.map a.eval)
 |[],Y,_,h=>by
  simp only[iQ,aJ]at h;subst h;exact rz G
 |x::U,Y,hk,h=>by
  simp only[iQ]at h;split at h
  .rename_i v vs O Z;simp only[aJ]at h;subst h;exact mD (hk x az v O) (BD (fun y V=>hk y (by simp[V])) Z)
  .simp at h
def lX{s:Sem Value}(h:R B H w G)(M:∃v,s.run P w=.ok v w/\VR G c v):vb P B H G w (do pure (.value (<-s))) c H:=by
 obtain⟨v,i,g⟩:=M;exact⟨.value v,w,G,v,by simp[i],.inl rfl,g,j9 h⟩
def xe{s:Sem Value}(M:∃v J V,s.run P w=.ok v J/\VR V c v/\Step B H.next G w H' J V):vb P B H G w (do pure (.value (<-s))) c H':=by
 obtain⟨v,J,V,i,g,m⟩:=M;exact⟨.value v,J,V,v,by simp[i],.inl rfl,g,m⟩
def JE{s:Sem Unit}(M:∃J,s.run P w=.ok () J/\Step B H.next G w H' J G):vb P B H G w (do s;pure .skip) ed H':=by
 obtain⟨J,i,g⟩:=M;exact⟨.skip,J,G,undef,by simp[i],.inr ⟨rfl,rfl⟩,yz G,g⟩
def JF{x:Option Operand}{c:qB}(j:∀y∈x.toArray,∀c,aV E y=some c->VR G c (a.eval y))(h:kL E x=some c):vc G c (x.map a.eval):=by
 unfold kL at h;split at h
 .simp only[aJ]at h;subst h;exact trivial
 .rename_i y;split at h
  .rename_i v V;simp only[aJ]at h;subst h;exact j y az v V
  .simp at h
def Tv(j:tz o=true)(K:vh G E a o.op.operands)(M:dz P D E H o.op=some (c,H')):pL P G w (execOp a.eval o) Next.value c H H':=by
 obtain⟨J,C,ty,m,Z,guard⟩:=o;simp only[]at M K;cases C<;>simp only[tz,gX,dC]at j
 case alloc t=>
  simp only[dz]at M;unfold yd at M;split at M
  .rename_i z I;simp only[cO]at M;obtain⟨rfl,rfl⟩:=M;obtain⟨Y,g,z2⟩:=w7 I;refine pL.next ⟨.cells z 0 true,.cells (Y.cells.toList++[]).toArray t,Y.cells.toList.length+0,.pointer (some ⟨w.heap.size,0,none⟩),rfl,?_,.cells z Y.cells.toList [] t (z2 G),fun V hG=>.ptr (off:=0) hG⟩
   simp[Instr.alloc,g,newVar,newRow]
  .simp at M
 case box t x=>
  simp only[dz]at M;unfold ye at M;split at M
  .rename_i v O;simp only[cO]at M;obtain⟨rfl,rfl⟩:=M;have hx:=(K x fq _ O).cells;refine pL.next ⟨.cells v.cells 0 true,.cells ((a.eval x).cells.toList++[]).toArray t,(a.eval x).cells.toList.length+0,.pointer (some ⟨w.heap.size,0,none⟩),rfl,?_,.cells v.cells _ [] t hx,fun V hG=>.ptr (off:=0) hG⟩
   simp[Instr.box,newVar,newRow]
  .simp at M
 case buildSlice t len parts=>
  simp only[dz]at M;unfold yf at M;split at M
  .rename_i ps U;obtain⟨q1,q2⟩:=Bw (G:=G) (a:=a) (fun p hp=>K p.2 EM) U;have:=Js (P:=P) (w:=w) q1 q2 M;have he:(parts.toList.map fun x=>(x.1,a.eval x.2)).toArray=parts.map fun(i,x)=>(i,a.eval x):=by
    apply m1;simp
   rw[he]at this;exact this.next
  .simp at M
 case makeMap t r=>
  simp only[dz]at M;unfold yj at M;split at M
  .simp only[cO]at M;obtain⟨rfl,rfl⟩:=M;refine pL.next ⟨.map [],.map #[] 0,0,.map (some w.heap.size),rfl,?_,.map,fun V hG=>.map hG⟩
   simp[Instr.makeMap]
  .simp at M
 case makeSlice t l c'=>
  simp only[dz]at M;unfold yk at M;split at M
  .rename_i lv cv L hc;exact(Jt (K l fq _ L) (K c' fq _ hc) M).next
  .simp at M
 case call cl=>
  simp only[dz,reduceCtorEq]at M
def Tw(h:R B H w G)(K:vh G E a o.op.operands)(M:dz P B.bG.b7 E H o.op=some (c,H')):vb P B H G w (execOp a.eval o) c H':=by
 obtain⟨dst,op,ty,pos,after,guard⟩:=o;simp only[]at M K;cases op<;>simp only[dz,reduceCtorEq]at M
 case move x=>
  obtain⟨Z,rfl⟩:=lD M;exact xc h rfl (K x fq _ Z)
 case assign x=>
  obtain⟨Z,rfl⟩:=lD M;exact xc h rfl (K x fq _ Z)
 case pick x y z=>
  unfold AY at M;split at M
  .rename_i hc;obtain⟨Z,rfl⟩:=lD M;have C:=K x fq _ hc;have:a.eval x=.bool true:=by generalize a.eval x=v at C;cases C;rfl
   exact xc h (v:=a.eval y) (by simp[execOp,asBool,this]) (K y fq _ Z)
  .rename_i hc;obtain⟨Z,rfl⟩:=lD M;have C:=K x fq _ hc;have:a.eval x=.bool false:=by generalize a.eval x=v at C;cases C;rfl
   exact xc h (v:=a.eval z) (by simp[execOp,asBool,this]) (K z fq _ Z)
  .simp at M
 case alloc t=>
  unfold yd at M;split at M
  .rename_i z hz;simp only[cO]at M;obtain⟨rfl,rfl⟩:=M;obtain⟨zv,z1,z2⟩:=w7 hz;have O:=Bp h (z2 G) [] t;rw[jI,wW]at O;refine xe ⟨.pointer (some ⟨w.heap.size,0,none⟩),_,_,?_,?_,O⟩
   .simp[Instr.alloc,z1,newVar,newRow]
   .exact .ptr (off:=0) (sr _ _ _)
  .simp at M
 case box t x=>
  unfold ye at M;split at M
  .rename_i v V;simp only[cO]at M;obtain⟨rfl,rfl⟩:=M;have O:=Bp h (K x fq _ V).cells [] t;rw[jI,wW]at O;refine xe ⟨.pointer (some ⟨w.heap.size,0,none⟩),_,_,?_,?_,O⟩
   .simp[Instr.box,newVar,newRow]
   .exact .ptr (off:=0) (sr _ _ _)
  .simp at M
 case build t parts=>
  unfold AZ at M;split at M
  .rename_i ps L;obtain⟨Z,rfl⟩:=lD M;obtain⟨q1,q2⟩:=Bw (G:=G) (a:=a) (fun p hp=>K p.2 EM) L;have:=Tb (P:=P) (w:=w) q1 q2 Z;have j:(parts.toList.map fun x=>(x.1,a.eval x.2)).toArray=parts.map fun(i,x)=>(i,a.eval x):=by
    apply m1;simp
   rw[j]at this;exact lX h this
  .simp at M
 case buildSlice t len parts=>
  unfold yf at M;split at M
  .rename_i ps L;obtain⟨q1,q2⟩:=Bw (G:=G) (a:=a) (fun p hp=>K p.2 EM) L;have:=(Js (P:=P) (w:=w) q1 q2 M).sim h;have j:(parts.toList.map fun x=>(x.1,a.eval x.2)).toArray=parts.map fun(i,x)=>(i,a.eval x):=by
    apply m1;simp
   rw[j]at this;exact xe this
  .simp at M
 case load t x=>
  unfold yg at M;split at M
  .rename_i v V;obtain⟨Z,rfl⟩:=lD M;exact lX h (Jl h (K x fq _ V) Z)
  .simp at M
 case store t x y=>
  unfold A0 at M;split at M
  .rename_i av vv ha V;split at M
   .rename_i H1 hs;simp only[cO]at M;obtain⟨rfl,rfl⟩:=M;exact JE (SK h (K x fq _ ha) (K y fq _ V) hs)
   .simp at M
  .simp at M
 case nilCheck x=>
  unfold A1 at M;split at M
  .rename_i r off V;simp only[cO]at M;obtain⟨rfl,rfl⟩:=M;have I:=K x fq _ V;refine xc h (v:=a.eval x) ?_ I;simp only[execOp];generalize a.eval x=v at I⊢;cases I;rfl
  .rename_i cs V;simp only[cO]at M;obtain⟨rfl,rfl⟩:=M;have I:=K x fq _ V;refine xc h (v:=a.eval x) ?_ I;simp only[execOp];generalize a.eval x=v at I⊢;cases I;rfl
  .simp at M
 case binOp op t x y yt=>
  unfold A2 at M;split at M
  .rename_i U yv I J;obtain⟨Z,rfl⟩:=lD M;exact lX h (S0 (by rw[h.val];exact h.cj) (K x fq _ I) (K y fq _ J) Z)
  .simp at M
 case unOp op t x=>
  unfold A3 at M;split at M
  .rename_i U I;obtain⟨Z,rfl⟩:=lD M;exact lX h (S1 (K x fq _ I) Z)
  .simp at M
 case convert s d x=>
  unfold yh at M;split at M
  .rename_i U I;obtain⟨Z,rfl⟩:=lD M;exact lX h (Tu h (K x fq _ I) Z)
  .simp at M
 case makeFunc fn first captured=>
  unfold A4 at M;split at M
  .rename_i f vs Y hvs;simp only[cO]at M;obtain⟨rfl,rfl⟩:=M;have hf:first=#[]:=by apply m1;simpa using Y
   subst hf;have:=BD (G:=G) (a:=a) (fun x I=>K x (by simp[Op.operands];simpa using I)) hvs;refine lX h ⟨.func (.func f) #[] (captured.map a.eval),by simp[Instr.makeFunc],?_⟩;have j:captured.map a.eval=(captured.toList.map a.eval).toArray:=EN;rw[j];exact .bb this.1 this.2
  .simp at M
 case makeMap t r=>
  unfold yj at M;split at M
  .simp only[cO]at M;obtain⟨rfl,rfl⟩:=M;exact xe ⟨.map (some w.heap.size),_,_,by simp[Instr.makeMap],.map (sr _ _ _),Sy h⟩
  .simp at M
 case makeSlice t l c'=>
  unfold yk at M;split at M
  .rename_i lv cv hl hc;exact xe ((Jt (K l fq _ hl) (K c' fq _ hc) M).sim h)
  .simp at M
 case slice t x lo g mx=>
  unfold yl at M;split at M
  .rename_i U l hh I hl hi';obtain⟨Z,rfl⟩:=lD M;exact lX h (Te h (K x fq _ I) (JF (fun y J=>K y (by simp[Op.operands]at *;simp[J])) hl) (JF (fun y J=>K y (by simp[Op.operands]at *;simp[J])) hi') Z)
  .simp at M
 case fieldAddr t x f=>
  unfold A5 at M;split at M
  .rename_i U I;obtain⟨Z,rfl⟩:=lD M;exact lX h (SL (K x fq _ I) Z)
  .simp at M
 case field t x f=>
  unfold Ba at M;split at M
  .rename_i U I;obtain⟨Z,rfl⟩:=lD M;exact lX h (SM (K x fq _ I) Z)
  .simp at M
 case indexAddr t x i=>
  unfold Bb at M;split at M
  .rename_i U iv I g;obtain⟨Z,rfl⟩:=lD M;exact lX h (SN (K x fq _ I) (K i fq _ g) Z)
  .simp at M
 case index t x i=>
  unfold Bc at M;split at M
  .rename_i U iv I g;obtain⟨Z,rfl⟩:=lD M;exact lX h (SO (K x fq _ I) (K i fq _ g) Z)
  .simp at M
 case lookup t m k ok=>
  unfold ym at M;split at M
  .rename_i mv kv hm hk;obtain⟨Z,rfl⟩:=lD M;exact lX h (Tp h (K m fq _ hm) (K k fq _ hk) Z)
  .simp at M
 case mapUpdate t m k v=>
  unfold Be at M;split at M
  .rename_i mv kv vv hm hk V;split at M
   .rename_i H1 hs;simp only[cO]at M;obtain⟨rfl,rfl⟩:=M;exact JE (Ts h (K m fq _ hm) (K k fq _ hk) (K v fq _ V) hs)
   .simp at M
  .simp at M
 case extract x i=>
  unfold Bf at M;split at M
  .rename_i U I;obtain⟨Z,rfl⟩:=lD M;exact lX h (SP (K x fq _ I) Z)
  .simp at M
def Tx(h:R B H w G){keep:Bool}{b:Builtin}{Y:Array TypeId}{ty:TypeId}{consts:qH}(V:cp G cs vs)(o:ru P keep H b Y.toList cs=some (c,H')):
 vb P B H G w (builtin b Y ty consts vs.toArray) c H':=by
 unfold ru at o;split at o
 .split at o
  .rename_i t u s x i;have j:Y=#[t,u]:=by apply m1;simpa using i
   subst j
   match vs,V with
   |[L,K],V=>
    obtain⟨Z,g⟩:=V.aX;obtain⟨m,_⟩:=g.aX;exact xe (Ti h Z m o)
   |[],V=>have:=V.1;simp at this
   |[_],V=>have:=V.1;simp at this
   |_::_::_::_,V=>have:=V.1;simp at this
  .simp at o
 .split at o
  .rename_i t x i;have j:Y=#[t]:=by apply m1;simpa using i
   subst j;split at o
   .rename_i v U;simp only[cO]at o;obtain⟨rfl,rfl⟩:=o
    match vs,V with
    |[K],V=>
     obtain⟨Z,_⟩:=V.aX;exact lX h (Tl h Z U)
    |[],V=>have:=V.1;simp at this
    |_::_::_,V=>have:=V.1;simp at this
   .simp at o
  .simp at o
 .split at o
  .rename_i x M;split at o
   .rename_i v O;simp only[cO]at o;obtain⟨rfl,rfl⟩:=o
    match vs,V with
    |[],V=>have:=V.1;simp at this
    |K::xvs,V=>
     obtain⟨Z,g⟩:=V.aX;have:=ER (P:=P) (w:=w) Z g O;exact lX h (by simpa [Builtin.max_]using this)
   .simp at o
  .simp at o
 .split at o
  .rename_i x M;split at o
   .rename_i v O;simp only[cO]at o;obtain⟨rfl,rfl⟩:=o
    match vs,V with
    |[],V=>have:=V.1;simp at this
    |K::xvs,V=>
     obtain⟨Z,g⟩:=V.aX;have:=ER (P:=P) (w:=w) Z g O;exact lX h (by simpa [Builtin.min_]using this)
   .simp at o
  .simp at o
 .simp at o
end
def EV:AX->Exit
 | .normal=>.normal
 | .exit id=>.exit id
 | .ret=>.ret
def lE(B:Bs)(N Z:Nat)(G:Gh)(w:World)(x:AX)(U:aB)(H':Hp):Exit->Act->World->Prop:=fun e O J=>
 e=EV x/\∃V,TR N V U O/\Step B Z G w H' J V/\O.defers=[]
structure Fit (P:Program):Prop where
 name:∀(f:FuncId) (fn:Func),P.funcs[f]?=some fn->fn.body.isSome=true->(fn.name == "runtime.NumGoroutine")=false
 mixed:P.follows .mixedOrders=true
structure Snd (P:Program) (B:Bs) (n:Nat) (ih:zd2->Res):Prop where
 call:∀f args H r H',ih (.call f args H)=.val r H'->∀G w vs,R B H w G->cp G args vs ->
  (∃fn,P.funcs[f]?=some fn/\fn.body.isSome=true)/\Calls P f vs.toArray w (fun e w'=>∃v G',e=.returned v/\VR G' r v/\Step B H.next G w H' w' G')
 aE:∀f N c E H x E' H',ih (.aE f N c E H)=.done x E' H'->∀G w a,R B H w G->TR N G E a->a.defers=[]->Code.wp P c (lE B N H.next G w x E' H') a w
 loop:∀f N c E H x E' H',ih (.aE f N (.loop c) E H)=.done x E' H'->∀G w a,R B H w G->TR N G E a->a.defers=[]->Code.rounds P c (lE B N H.next G w x E' H') n a w
theorem EW{P:Program}{c:Code}{Q V:Exit->Act->World->Prop}(h:∀e a w,Q e a w->V e a w):∀{n:Nat}{a:Act}{w:World},Code.rounds P c Q n a w->Code.rounds P c V n a w
 |0,_,_,hr=>hr
 |n+1,_,_,hr=>by
  rw[rounds_succ]at *;exact tI (fun e a w j=>by
   cases e with
   |normal=>exact EW h j
   |_=>exact h _ _ _ j) hr
def lE.trans{B:Bs}{G:Gh}{w:World}{H' K:Hp}{x:AX}{m:aB}(Y:Step B V G w H' w' Z){e:Exit}{M:World}(h:lE B N H'.next Z w' x m K e a M):lE B N V G w x m K e a M:=by
 obtain⟨j,L,i,g,U⟩:=h;exact⟨j,L,i,Y.trans g,U⟩
def BE:=@lE.trans
section
variable {P:Program} {B:Bs} {G:Gh} {H H':Hp} {w:World}
def EX(h:TR N G E a){x:Operand}(V:aV E x=some c):VR G c (a.eval x):=by
 cases x with
 |tmp t=>simp only[aV,aJ]at V;subst V;exact h.bp t
 |const v=>exact w1 V
 |global g=>simp[aV]at V
 |func f=>simp only[aV,aJ]at V;subst V;exact .bb (vs:=[]) rfl az
def TR.dJ(h:TR N G E a)(xs:Array Operand):vh G E a xs:=fun _ _ _ hc=>EX h hc
theorem Ty{d:Nat}(h:VR G (E.at d) (a.tmps.getD d undef)):(match E.at d with|.bool b=>some b |_=>none)=(match a.tmps[d]? with|some (.bool b)=>some b |_=>none):=by
 rw[jG]at h;cases hd:a.tmps[d]? with
 |none=>
  rw[hd]at h;simp only[Option.getD_none,undef]at h;generalize E.at d=c at h;cases h;rfl
 |some v=>
  rw[hd]at h;simp only[bS]at h;generalize E.at d=c at h;cases h<;>rfl
theorem Tz{j:Nat}(h:∀d,(ops[j]?).bind (·.dst)=some d->VR G (E.at d) (a.tmps.getD d undef)):Bg ops.toList E j=yielded ops a.tmps j:=by
 unfold Bg yielded;rw[yF];cases hd:(ops[j]?).bind (·.dst)with
 |none=>rfl
 |some d=>exact Ty (h d hd)
theorem JG(h:∀j b d,o.guard=some (j,b)->(ops[j]?).bind (·.dst)=some d->VR G (E.at d) (a.tmps.getD d undef)):jC ops.toList E o=Region.wanted o (yielded ops a.tmps):=by
 unfold jC Region.wanted;cases J:o.guard with
 |none=>rfl
 |some p=>
  obtain⟨j,b⟩:=p;simp only[];rw[Tz (fun d hd=>h j b d J hd)];cases yielded ops a.tmps j with
  |none=>rfl
  |some I=>cases b<;>cases I <;>rfl
theorem BF(fit:Fit P)(hih:Snd P B n ih)(h:R B H w G)(hE:vh G E a o.op.operands)(M:en P B.bG ih f E H o.op=.val c H')
 {K:Act->World->Prop}{Q:Exit->Act->World->Prop} (hK:∀v O C,VR C c v->Step B H.next G w H' O C->K (a.put o.dst v) O):o.wp P a w K Q:=by
 have J:∀s:Sem Next,vb P B H G w s c H'->execOp a.eval o=s->o.wp P a w K Q:=fun s hs he=>by
  obtain⟨m,O,C,v,h1,h2,h3,h4⟩:=hs;unfold Oper.wp;rw[he,h1];rcases h2 with rfl|⟨rfl,rfl⟩
  .exact hK v O C h3 h4
  .exact hK undef O C h3 h4
 unfold en at M;split at M
 .rename_i U V;unfold tw at M;split at M
  .rename_i g hg;split at M
   .rename_i k cap vs hgv z;have Y:vh G E a U.operands:=by rw[V]at hE;exact hE
    have hgr:=Y g (by simp[Call.operands,hg]) _ hgv;have Z:=BD (G:=G) (a:=a) (fun x hx=>Y x (by simp[Call.operands,hg];exact .inr (by simpa using hx))) z;generalize hge:a.eval g=gv at hgr;cases hgr with
    |bb hl hv=>
     rename_i j;have hall:=Z.append (G:=G) ⟨hl,hv⟩;obtain⟨⟨fn,hfn,i⟩,I⟩:=hih.call _ _ _ _ _ M G w _ h hall;have hname:=fit.name _ _ hfn i;unfold Oper.wp;have hrun:(execOp a.eval o).run P w=.ok (.enter k ((U.args.toList.map a.eval)++j).toArray) w:=by
      have L:U.args.map a.eval=(U.args.toList.map a.eval).toArray:=EN;unfold execOp;rw[V];simp only[fh,resolve,hg,hge,Deferred.ofValue,kR,fo,invoke,callFunc,run_program,hfn,hname];simp only[dC,bH];have hb:fn.body.isNone=false:=by cases hb:fn.body<;>simp_all
      rw[hb];simp[L]
     rw[hrun];show Calls P k _ w _;refine I.mono fun e O hr=>?_;obtain⟨v,C,rfl,h1,h2⟩:=hr;exact hK v O C h1 h2
   .simp at M
  .rename_i b hg;split at M
   .rename_i vs z;split at M
    .rename_i v H1 hb;simp only[Res.val.injEq]at M;obtain⟨rfl,rfl⟩:=M;have Y:vh G E a U.operands:=by rw[V]at hE;exact hE
     have Z:=BD (G:=G) (a:=a) (fun x hx=>Y x (by simp[Call.operands,hg];simpa using hx)) z;have hs:=Tx (ty:=o.type) (consts:=U.args.map fun|.const _=>true |_=>false) h Z hb;refine J _ hs ?_;have L:U.args.map a.eval=(U.args.toList.map a.eval).toArray:=EN;unfold execOp;rw[V];simp only[resolve,hg,L];rfl
    .simp at M
   .simp at M
  .simp at M
 .rename_i op hne;unfold gW at M;split at M
  .rename_i v H1 ho;simp only[Res.val.injEq]at M;obtain⟨rfl,rfl⟩:=M;exact J _ (Tw h hE ho) rfl
  .simp at M
theorem EY(fit:Fit P){n:Nat}{ih:zd2->Res}(I:Snd P B n ih){f N:Nat}{ops:qK}:∀(l:qx) {E E':aB}{H:Hp}{x:AX}{a:Act}{w:World}{G:Gh}{Q:Exit->Act->World->Prop},j6 P B.bG ih f N ops.toList l E H=.done x E' H' ->
 R B H w G->TR N G E a->a.defers=[]->(∀e C J,lE B N H.next G w x E' H' e C J->Q e C J)->wpList P ops Q l a w
 |[],E,E',H,x,a,w,G,Q,hr,h,ht,hd,hQ=>by
  simp only[j6,Res.done.injEq]at hr;obtain⟨rfl,rfl,rfl⟩:=hr;exact hQ _ _ _ ⟨rfl,G,ht,j9 h,hd⟩
 |o::l,E,E',H,x,a,w,G,Q,hr,h,ht,hd,hQ=>by
  have z:∀E H,(List.rec (motive:=fun _=>aB->Hp->Res) (fun E H=>.done .normal E H)
   (fun o _ m E H=>match jC ops.toList E o with
     |true=>match en P B.bG ih f E H o.op with
      | .val v H=>kM m H (fE N E o.dst v)
      |_=>.aF
     |false=>kM m H (fE N E o.dst ed)) l E H:Res)=j6 P B.bG ih f N ops.toList l E H:=fun _ _=>rfl
  have L:j6 P B.bG ih f N ops.toList (o::l) E H=match jC ops.toList E o with
   |true=>match en P B.bG ih f E H o.op with
    | .val v H=>kM (j6 P B.bG ih f N ops.toList l) H (fE N E o.dst v)
    |_=>.aF
   |false=>kM (j6 P B.bG ih f N ops.toList l) H (fE N E o.dst ed):=rfl
  rw[L]at hr;have Y:=JG (G:=G) (E:=E) (a:=a) (ops:=ops) (o:=o) (fun _ _ d _ _=>ht.bp d);have M:∀U v,(a.put U v).defers=[]:=fun U v=>by cases U<;>exact hd
  cases Z:jC ops.toList E o with
  |true=>
   rw[Z]at hr Y;simp only[]at hr;split at hr
   .rename_i v H1 V;cases hp:fE N E o.dst v with
    |none=>rw[hp]at hr;simp[kM]at hr
    |some E1=>
     rw[hp]at hr;simp only[kM]at hr;unfold wpList;rw[ay Y.symm];refine .inl (BF fit I h (ht.dJ _) V fun j J i g O=>?_);have K:TR N i E1 (a.put o.dst j):=(ht.mono O.ext).put g hp;exact EY fit I l hr O.r K (M _ _) (fun e a w he=>hQ _ _ _ (BE O he))
   .simp at hr
  |false=>
   rw[Z]at hr Y;simp only[]at hr;cases hp:fE N E o.dst ed with
   |none=>rw[hp]at hr;simp[kM]at hr
   |some E1=>
    rw[hp]at hr;simp only[kM]at hr;unfold wpList;rw[af (by rw[<-Y];simp)];exact EY fit I l hr h (ht.put (yz G) hp) (M _ _) hQ
end
section
variable {P:Program} {B:Bs} {G:Gh} {H H':Hp} {w:World} {cfg:Cfg}
theorem Sx.aT:∀{a b:Sx},Sx.beq a b=true->a=b
 | .var i,b,h=>by
   cases b<;>simp only[Sx.beq,dC]at h;rw[jn h]
 | .lit i,b,h=>by
   cases b<;>simp only[Sx.beq,dC,oW]at h;rw[h]
 | .bZ o k x y,b,h=>by
   cases b<;>simp only[Sx.beq,dC,jJ]at h;obtain⟨⟨⟨rfl,rfl⟩,Z⟩,g⟩:=h;rw[Sx.aT Z,Sx.aT g]
 | .cN k x,b,h=>by
   cases b<;>simp only[Sx.beq,dC,jJ]at h;obtain⟨rfl,Z⟩:=h;rw[Sx.aT Z]
mutual
theorem AV.aT:∀{a b:AV},AV.beq a b=true->a=b
 | .int k a,b,h=>by
   cases b<;>simp only[AV.beq,jJ,oW,dC]at h;obtain⟨rfl,rfl⟩:=h;rfl
 | .sx k a,b,h=>by
   cases b<;>simp only[AV.beq,jJ,dC]at h;obtain⟨rfl,i⟩:=h;rw[Sx.aT i]
 | .bool a,b,h=>by
   cases b<;>simp only[AV.beq,oW,dC]at h;subst h;rfl
 | .ai a,b,h=>by
   cases b<;>simp only[AV.beq,oW,dC]at h;subst h;rfl
 | .bl,b,h=>by cases b<;>simp only[AV.beq,dC]at h;rfl
 | .a7,b,h=>by cases b<;>simp only[AV.beq,dC]at h;rfl
 | .bu,b,h=>by cases b<;>simp only[AV.beq,dC]at h;rfl
 | .ah,b,h=>by cases b<;>simp only[AV.beq,dC]at h;rfl
 | .ptr r o,b,h=>by
   cases b<;>simp only[AV.beq,co,dC]at h;obtain⟨i,g⟩:=h;rw[jn i,jn g]
 | .a8 a,b,h=>by
   cases b<;>simp only[AV.beq,dC]at h;rw[pM h]
 | .sl r o l z,b,h=>by
   cases b<;>simp only[AV.beq,co,dC]at h;obtain⟨⟨⟨i,g⟩,m⟩,U⟩:=h;rw[jn i,jn g,jn m,jn U]
 | .ao a,b,h=>by
   cases b<;>simp only[AV.beq,dC]at h;rw[JH h]
 | .map r,b,h=>by
   cases b<;>simp only[AV.beq,dC]at h;rw[jn h]
 | .bb f a,b,h=>by
   cases b<;>simp only[AV.beq,co,dC]at h;rw[jn h.1,pM h.2]
 | .agg a,b,h=>by
   cases b<;>simp only[AV.beq,dC]at h;rw[pM h]
 | .aS a,b,h=>by
   cases b<;>simp only[AV.beq,dC]at h;rw[pM h]
theorem pM:∀{a b:qs},lQ a b=true->a=b
 |[],b,h=>by cases b<;>simp only[lQ,dC]at h;rfl
 |a::x,b,h=>by
  cases b<;>simp only[lQ,co,dC]at h;rw[AV.aT h.1,pM h.2]
theorem JH:∀{a b:List qs},uU a b=true->a=b
 |[],b,h=>by cases b<;>simp only[uU,dC]at h;rfl
 |a::x,b,h=>by
  cases b<;>simp only[uU,co,dC]at h;rw[pM h.1,JH h.2]
end
theorem JI{J β:Type}:∀{a b:List (J×β)},a.map (·.1)=b.map (·.1)->a.map (·.2)=b.map (·.2)->a=b
 |[],b,h,_=>by cases b<;>simp at h;rfl
 |(x,y)::a,b,h,o=>by
  cases b with
  |nil=>simp at h
  |cons c b=>
   obtain⟨u,v⟩:=c;simp only[dS,dR]at h o;obtain⟨rfl,h⟩:=h;obtain⟨rfl,o⟩:=o;rw[JI h o]
def HB.aT{a b:HB}(h:HB.beq a b=true):a=b:=by
 cases a<;>cases b<;>simp only[HB.beq,co,dC,oW]at h
 .obtain⟨⟨i,g⟩,m⟩:=h;rw[pM i,jn g,m]
 .rw[JI (pM h.1) (pM h.2)]
def og(P:Program)(cfg:Cfg)(ih:zd2->Res)(f N:Nat)(Z:qx):List Rec->qx->aB->Hp->aB->Hp->Prop
 |[],[],E,H,E',H'=>E=E'/\H=H'
 |r::rs,o::l,E,H,E',H'=>r.o=o/\r.E=E/\r.H=H/\jC Z E o=r.did/\(r.did=true->en P cfg ih f E H o.op=.val r.val r.H')/\(r.did=false->r.val=ed/\r.H'=H) /\
  ∃E1,fE N E o.dst r.val=some E1/\og P cfg ih f N Z rs l E1 r.H' E' H'
 |_,_,_,_,_,_=>False
theorem yJ{ih:zd2->Res}{f N:Nat}{Z:qx}:∀{l:qx}{E E':aB}{H H':Hp}{rs:List Rec},jD P cfg ih f N Z l E H=.done E' H' rs->og P cfg ih f N Z rs l E H E' H'
 |[],E,E',H,H',rs,h=>by
  simp only[jD,zfY.done.injEq]at h;obtain⟨rfl,rfl,rfl⟩:=h;exact⟨rfl,rfl⟩
 |o::l,E,E',H,H',rs,h=>by
  simp only[jD]at h;cases L:jC Z E o with
  |true=>
   rw[L]at h;simp only[]at h;cases M:en P cfg ih f E H o.op with
   |val v H1=>
    rw[M]at h;simp only[]at h;cases hp:fE N E o.dst v with
    |none=>rw[hp]at h;simp[oR,oQ]at h
    |some E1=>
     rw[hp]at h;simp only[oR]at h;cases hr:jD P cfg ih f N Z l E1 H1 with
     |aF=>rw[hr]at h;simp[oQ]at h
     |done j Y U=>
      rw[hr]at h;simp only[oQ,zfY.done.injEq]at h;obtain⟨rfl,rfl,rfl⟩:=h;exact⟨rfl,rfl,rfl,L,fun _=>M,az,E1,hp,yJ hr⟩
   |done _ _ _=>rw[M]at h;simp at h
   |aF=>rw[M]at h;simp at h
  |false=>
   rw[L]at h;simp only[]at h;cases hp:fE N E o.dst ed with
   |none=>rw[hp]at h;simp[oR,oQ]at h
   |some E1=>
    rw[hp]at h;simp only[oR]at h;cases hr:jD P cfg ih f N Z l E1 H with
    |aF=>rw[hr]at h;simp[oQ]at h
    |done j Y U=>
     rw[hr]at h;simp only[oQ,zfY.done.injEq]at h;obtain⟨rfl,rfl,rfl⟩:=h;exact⟨rfl,rfl,rfl,L,az,fun _=>⟨rfl,rfl⟩,E1,hp,yJ hr⟩
def gN(rs:List Rec)(U:aB)(e:Nat):aB:=match rs[e]? with
 |some r=>r.E
 |none=>U
theorem EZ{ih:zd2->Res}{f N:Nat}{Z:qx}:∀{rs:List Rec}{l:qx}{E E':aB}{H H':Hp},og P cfg ih f N Z rs l E H E' H'->rs.length=l.length
 |[],[],_,_,_,_,_=>rfl
 |[],_::_,_,_,_,_,h=>by simp[og]at h
 |_::_,[],_,_,_,_,h=>by simp[og]at h
 |r::rs,o::l,E,E',H,H',h=>by
  obtain⟨_,_,_,_,_,_,E1,_,h⟩:=h;simp[EZ h]
def E6{f:Nat}{Z:qx}{rs:List Rec}{l:qx}{U:aB}{H H':Hp}(h:og P cfg ih f N Z rs l E H U H'):gN rs U 0=E/\cD rs H' 0=H:=by
 cases rs with
 |nil=>
  cases l with
  |nil=>obtain⟨rfl,rfl⟩:=h;exact⟨rfl,rfl⟩
  |cons o l=>simp[og]at h
 |cons r rs=>
  cases l with
  |nil=>simp[og]at h
  |cons o l=>
   obtain⟨_,i,g,_⟩:=h;exact⟨by simp[gN,i],by simp[cD,g]⟩
structure AtD (P:Program) (cfg:Cfg) (ih:zd2->Res) (f N:Nat) (all:qx) (o:Oper) (r:Rec) (E E1:aB) (H H1:Hp):Prop where
 eo:r.o=o
 eE:r.E=E
 eH:r.H=H
 d6:jC all E o=r.did
 dr:r.did=true->en P cfg ih f E H o.op=.val r.val H1
 no:r.did=false->r.val=ed/\H1=H
 put:fE N E o.dst r.val=some E1
 eH':r.H'=H1
theorem vk{ih:zd2->Res}{f N:Nat}{Z:qx}:∀{rs:List Rec}{l:qx}{E E':aB}{H H':Hp},og P cfg ih f N Z rs l E H E' H'->∀{i:Nat}{r:Rec},rs[i]?=some r ->
 ∃o,l[i]?=some o/\AtD P cfg ih f N Z o r (gN rs E' i) (gN rs E' (i+1)) (cD rs H' i) (cD rs H' (i+1))
 |[],_,_,_,_,_,_,i,r,hr=>by simp at hr
 |r::rs,[],_,_,_,_,h,_,_,_=>by simp[og]at h
 |r::rs,o::l,E,E',H,H',h,i,r',hr=>by
  obtain⟨V,g,m,U,M,K,E1,z,I⟩:=h;obtain⟨O,L⟩:=E6 I;cases i with
  |zero=>
   simp at hr;subst hr;have Y:gN (r::rs) E' 1=E1:=by rw[<-O];simp[gN]
   have J:cD (r::rs) H' 1=r.H':=by rw[<-L];simp[cD]
   have e3:gN (r::rs) E' 0=E:=by simp[gN,g]
   have e4:cD (r::rs) H' 0=H:=by simp[cD,m]
   refine⟨o,rfl,?_⟩;rw[Y,J,e3,e4];exact⟨V,g,m,U,M,fun C=>⟨(K C).1,(K C).2⟩,z,rfl⟩
  |succ i=>
   obtain⟨j,g1,g2⟩:=vk I (i:=i) (r:=r') (by simpa using hr);have Y:∀k,gN (r::rs) E' (k+1)=gN rs E' k:=fun k=>by simp[gN]
   have J:∀k,cD (r::rs) H' (k+1)=cD rs H' k:=fun k=>by simp[cD]
   refine⟨j,by simpa using g1,?_⟩;rw[Y,Y,J,J];exact g2
def su(op:Op):Bool:=match gX op with|.calm=>true |_=>false
def rA(op:Op):Bool:=match gX op with|.read=>true |_=>false
def TA{op:Op}(j:su op=true):∃u,∀X,dz P D E X op=ret X u:=by
 cases op<;>simp only[su,gX,dC]at j<;>simp only[dz]
 case move x=>exact⟨_,fun X=>rfl⟩
 case assign x=>exact⟨_,fun X=>rfl⟩
 case pick c a b=>
  unfold AY;cases aV E c with
  |none=>exact⟨none,fun X=>rfl⟩
  |some v=>cases v with
   |bool t=>cases t<;>exact⟨_,fun X=>rfl⟩
   |_=>exact⟨none,fun X=>rfl⟩
 case build t parts=>
  unfold AZ;cases lC E parts.toList with
  |none=>exact⟨none,fun X=>rfl⟩
  |some Z=>exact⟨_,fun X=>rfl⟩
 case nilCheck x=>
  unfold A1;cases aV E x with
  |none=>exact⟨none,fun X=>rfl⟩
  |some v=>cases v with
   |ptr r o=>exact⟨some (.ptr r o),fun X=>rfl⟩
   |a8 Y=>exact⟨some (.a8 Y),fun X=>rfl⟩
   |_=>exact⟨none,fun X=>rfl⟩
 case binOp op t x y yt=>
  unfold A2;cases aV E x with
  |none=>exact⟨none,fun X=>rfl⟩
  |some v=>cases aV E y with
   |none=>exact⟨none,fun X=>rfl⟩
   |some u=>exact⟨_,fun X=>rfl⟩
 case unOp op t x=>
  unfold A3;cases aV E x with
  |none=>exact⟨none,fun X=>rfl⟩
  |some v=>exact⟨_,fun X=>rfl⟩
 case makeFunc fn first captured=>
  unfold A4;cases fn with
  |func f=>
   cases first.toList with
   |nil=>cases iQ E captured.toList with
    |none=>exact⟨none,fun X=>rfl⟩
    |some vs=>exact⟨some (.bb f vs),fun X=>rfl⟩
   |cons _ _=>exact⟨none,fun X=>rfl⟩
  |_=>exact⟨none,fun X=>rfl⟩
 case fieldAddr t x f=>
  unfold A5;cases aV E x with
  |none=>exact⟨none,fun X=>rfl⟩
  |some v=>exact⟨_,fun X=>rfl⟩
 case field t x f=>
  unfold Ba;cases aV E x with
  |none=>exact⟨none,fun X=>rfl⟩
  |some v=>exact⟨_,fun X=>rfl⟩
 case indexAddr t x i=>
  unfold Bb;cases aV E x with
  |none=>exact⟨none,fun X=>rfl⟩
  |some v=>cases aV E i with
   |none=>exact⟨none,fun X=>rfl⟩
   |some u=>exact⟨_,fun X=>rfl⟩
 case index t x i=>
  unfold Bc;cases aV E x with
  |none=>exact⟨none,fun X=>rfl⟩
  |some v=>cases aV E i with
   |none=>exact⟨none,fun X=>rfl⟩
   |some u=>exact⟨_,fun X=>rfl⟩
 case extract x i=>
  unfold Bf;cases aV E x with
  |none=>exact⟨none,fun X=>rfl⟩
  |some v=>exact⟨_,fun X=>rfl⟩
 all_goals exact⟨none,fun X=>rfl⟩
def E7{op:Op}(j:su op=true)(h:dz P D E H op=some (v,H')):H'=H/\∀X,dz P D E X op=some (v,X):=by
 obtain⟨u,m⟩:=TA (P:=P) (D:=D) (E:=E) j;rw[m]at h;obtain⟨rfl,rfl⟩:=lD h;exact⟨rfl,fun X=>by rw[m];rfl⟩
def E8{op:Op}(j:rA op=true)(h:en P cfg ih f E H op=.val v H'):H'=H:=by
 cases op<;>simp only[rA,gX,dC]at j<;>simp only[en,dz]at h
 case load t x=>
  unfold yg at h;split at h
  .cases I:eY P H t ‹AV› <;>rw[I]at h<;>simp[ret,gW]at h;exact h.2.symm
  .simp[gW]at h
 case slice t x lo hi mx=>
  unfold yl at h;split at h
  .rename_i K lv V _ _ _;cases I:oM P H t K lv V<;>rw[I]at h<;>simp[ret,gW]at h;exact h.2.symm
  .simp[gW]at h
 case convert s d x=>
  unfold yh at h;split at h
  .cases I:lP P H s d ‹AV› <;>rw[I]at h<;>simp[ret,gW]at h;exact h.2.symm
  .simp[gW]at h
 case lookup t m k ok=>
  unfold ym at h;split at h
  .rename_i mv O _ _;cases I:lO P H t mv O ok<;>rw[I]at h<;>simp[ret,gW]at h;exact h.2.symm
  .simp[gW]at h
 case call c=>
  unfold tw at h;cases hc:c.callee with
  |value g=>rw[hc]at j;simp at j
  |invoke g m=>rw[hc]at j;simp at j
  |builtin b=>
   rw[hc]at j h;simp only[]at h;split at h
   .rename_i vs _;cases b<;>simp only[dC]at j<;>simp only[ru]at h;all_goals
     split at h
     .rename_i i H1 o;simp only[Res.val.injEq]at h;obtain⟨rfl,rfl⟩:=h;split at o
      .split at o
       .simp only[cO]at o;exact o.2.symm
       .simp at o
      .simp at o
     .simp at h
   .simp at h
def TB(j:tz o=true)(h:dz P D E H o.op=some (v,H')):∃i,H'=H.alloc i:=by
 obtain⟨U,Z,I,J,K,guard⟩:=o;simp only[]at h;cases Z<;>simp only[tz,gX,dC]at j<;>simp only[dz,reduceCtorEq]at h
 case alloc t=>
  unfold yd at h;split at h
  .simp only[cO]at h;exact⟨_,h.2.symm⟩
  .simp at h
 case box t x=>
  unfold ye at h;split at h
  .simp only[cO]at h;exact⟨_,h.2.symm⟩
  .simp at h
 case buildSlice t len parts=>
  unfold yf at h;split at h
  .unfold dW at h;(repeat' split at h)<;>first|(simp only[cO]at h;exact⟨_,h.2.symm⟩)|simp at h
  .simp at h
 case makeMap t r=>
  unfold yj at h;split at h
  .simp only[cO]at h;exact⟨_,h.2.symm⟩
  .simp at h
 case makeSlice t l c=>
  unfold yk at h;split at h
  .unfold j0 at h;(repeat' split at h)<;>first|(simp only[cO]at h;exact⟨_,h.2.symm⟩)|simp at h
  .simp at h
def vm{op:Op}(C:∀c,op≠.call c):en P cfg ih f E H op=.val v H'↔dz P cfg.b7 E H op=some (v,H'):=by
 have:en P cfg ih f E H op=gW (dz P cfg.b7 E H op):=by
  unfold en;split
  .exact(C _ rfl).elim
  .rfl
 rw[this];cases dz P cfg.b7 E H op with
 |none=>simp[gW]
 |some p=>obtain⟨a,b⟩:=p;simp[gW]
def TC(j:mX o=false)(h:en P cfg ih f E H o.op=.val v H'):H'=H\/∃i,H'=H.alloc i:=by
 cases Z:gX o.op with
 |cA=>simp[mX,Z]at j
 |read=>exact .inl (E8 (by simp[rA,Z]) h)
 |calm=>
  have C:∀c,o.op≠.call c:=fun c e=>by
   rw[e]at Z;simp only[gX]at Z;split at Z<;>simp at Z
  exact .inl (E7 (P:=P) (by simp[su,Z]) ((vm C).1 h)).1
 |make=>
  have C:∀c,o.op≠.call c:=fun c e=>by
   rw[e]at Z;simp only[gX]at Z;split at Z<;>simp at Z
  exact .inr (TB (by simp[tz,Z]) ((vm C).1 h))
end
end Go.Ab
