/- Lemmas for the last file. -/
import Derived.Test.YtbflaciihaijgaaSEB
set_option linter.all false
set_option maxHeartbeats 32000000
namespace Go.Ab
set_option maxRecDepth 20000
open Go
abbrev qr:=Array Bool
abbrev qm:=List Int
variable{qb:Prop}
def kW(h:qb:=by simpa using Y):=h
def pQ(h:qb:=by simp[Builtin.lenOf]):=h
def nN(h:qb:=by rw[List.length_take];omega):=h
def nO(h:qb:=by simp[Builtin.len_,bU hd,goInt]):=h
def cB(h:qb:=by simp[Op.operands]):=h
def sV(h:qb:=by simp only[Op.operands,List.mem_toArray,List.mem_map];exact⟨p,hp,rfl⟩):=h
def sW(h:qb:=by apply Array.ext';simp):=h
def l9:=@List.flatten_cons
def sX:=@Go.run_firstCells_some
def fY:=@List.mem_of_getElem?
def kX:=@List.drop_zero
def cI:=@Bool.and_eq_true
def nP:=@Nat.le_of_ble_eq_true
def bK:=@Bool.false_eq_true
def sY:=@List.drop_append_of_le_length
def vG:=@List.length_eq_zero_iff
def dE:=@decide_eq_true_eq
def bQ:=@Option.getD_some
def nQ:=@Array.getElem?_toList
def nR:=@List.cons.injEq
def j5:=@Go.Code.wp_mono
def mb:=@List.map_cons
end Go.Ab
namespace Go.Ab
set_option maxRecDepth 20000
open Go Go.RowKit
variable{cs:qh}{vs:ql}{s n b F N:Nat}{t u e W:TypeId}{x c m y k v:AV}{L O Y:Value}{U d:TypeDesc}{a:Act}{w':World}{o:Oper}{E:ae}{D:BinOp->Sx->Sx->qo}{ops:qv}{ih:zad->Res}{f:FuncId}
section
variable {P:Program} {B:Bs} {G:Gh} {H H':Hp} {w:World}
def bb.a9(h:bb G cs vs)(J:cs.all AV.one=true):∀v∈vs,v.oneCell'=true:=fun v M=>by
 obtain⟨i,I,rfl⟩:=List.getElem_of_mem M;have L:i<cs.length:=by rw[h.1];exact I
 rw[(h.2 i _ _ (bq L) (bq I)).a9];exact fU.1 J _ (jn L)
def AD{xs:List qh}(J:∀(i:Nat) (S:qh),xs[i]?=some S->S.length=s):xs.flatten.length=xs.length*s /\
 ∀(i j:Nat) (c:AV),j<s->xs.flatten[i*s+j]?=some c->∃S,xs[i]?=some S/\S[j]?=some c:=by
 induction xs with
 |nil=>exact⟨aK,aK⟩
 |cons S xs ih=>
  have hr:=J 0 S rfl;obtain⟨m,o⟩:=ih (fun i r I=>J (i+1) r nF);refine⟨by simp[m,hr,nH];omega,fun i j c V hc=>?_⟩;rw[l9]at hc;cases i with
  |zero=>
   rw[Nat.zero_mul,dd,h8 aa]at hc;exact⟨S,rfl,hc⟩
  |succ i=>
   rw[jk (by rw[hr,nH];omega)]at hc;rw[hr,show(i+1)*s+j-s=i*s+j by rw[nH];omega]at hc;obtain⟨r,Y,U⟩:=o i j c V hc;exact⟨r,kW,U⟩
def AE{k:Nat}(h:k<n*s):k/s<n/\k%s<s/\k=k/s*s+k%s:=by
 have J:0<s:=by
  rcases Nat.eq_zero_or_pos s with e|e
  .subst e;omega
  .exact e
 refine⟨(Nat.div_lt_iff_lt_mul J).2 h,Nat.mod_lt _ J,?_⟩;have:=Nat.div_add_mod k s;rw[Nat.mul_comm]at this;omega
def AF(h:R B H w G){U I:qk}{m Y:qz}(W:VR G x L)(O:kV G U m)(V:kV G I Y)(J:gD P H t x U I=some c):
 ∃v,(Instr.sliceAt t L m Y none).run P w=.ok v w/\VR G c v:=by
 unfold gD at J;split at J
 .rename_i r F;split at J
  .rename_i n e cs C S hd M;split at J
   .rename_i z l A hz bl bh;split at J
    .rename_i hc;obtain⟨h1,h2,h3⟩:=hc;cases W with
     |ptr hr=>
      rename_i b o x;have hf:=h.a2 _ _ _ _ _ _ _ hr M;have hb:=sT (P:=P) (w:=w) (cap:=n) O V bl bh h1 h2 (aA _) false;have Z:(Instr.sliceAt t (.pointer (some ⟨b,o+F,none⟩)) m Y none).run P w=.ok (.slice (some (if n=l then ⟨b,o+F,none⟩else ⟨b,o+F+l*z,none⟩)) (A-l) (n-l)) w:=by
       simp only[Instr.sliceAt,cw,bU hd,cA];simp[Instr.sureAddr,hb,eD hz,gr]
      split at J
      .rename_i e1;simp only[ak]at J;subst J;subst e1;rw[nG]at Z;exact⟨_,Z,.b1 _ _⟩
      .rename_i hne;simp only[ak]at J;subst J;rw[aw aa]at Z;refine⟨_,Z,?_⟩;rw[eP];refine .sl hr aa ?_;have e3:(n-l)*z+l*z=n*z:=sH;omega
    .simp at J
   .simp at J
  .simp at J
 .exact AB W O V J
def sZ(h:R B H w G){xv:Value}{l:qh}(hx:VR G x xv)(J:hS H s x=some (n,l)):
 ∃V,bb G l V/\V.length=n*s/\(∀I,(Builtin.lenOf xv).run P I=.ok n I)/\(∀I,(∀a,I.cell? a=w.cell? a)->(Builtin.firstCells s n xv).run P I=.ok V.toArray I):=by
 unfold hS at J;split at J
 .rename_i r off F z;cases hx with
  |sl hr hl hc=>
   rename_i b o x Z;split at J
   .rename_i cs imm tip hg;simp only[]at J;split at J
    .rename_i O;simp only[bm]at J;obtain⟨rfl,rfl⟩:=J;obtain⟨vs,h1,h2⟩:=(((h.cells _ _ _ _ _ _ _ hr hg).drop off).take (F*s)).list;have m:vs.length=F*s:=by rw[<-h1.1];exact O
     refine⟨vs,h1,m,fun I=>pQ,fun I U=>?_⟩;exact sX I s F _ F Z vs m (fun j v hj=>by rw[U,gr];exact h2 j v hj)
    .simp at J
   .simp at J
 .rename_i Y;split at J
  .rename_i A;simp only[bm]at J;obtain⟨rfl,rfl⟩:=J;have C:∀(i:Nat) (S:qh),Y[i]?=some S->S.length=s:=fun i S hi=>by
    have:=fU.1 A S (fY hi);simpa using this
   obtain⟨hfl,hfg⟩:=AD C;cases hx with
   |b1 a Z=>
    refine⟨[],iK G,aK,fun I=>pQ,fun I U=>?_⟩;cases a with
    |none=>simp[Builtin.firstCells]
    |some a=>
     simp[Builtin.firstCells];rfl
   |af vs hz hF M hcap=>
    rename_i b o Z z;have hzs:Y.length=0\/z=s:=by
     cases Y with
     |nil=>exact .inl rfl
     |cons S Y=>exact .inr (by rw[<-hz 0 S rfl,C 0 S rfl])
    have hh:dD G w b o Y.flatten:=fun k c hk=>by
     have L:k<Y.length*s:=by rw[<-hfl];exact(ci.1 hk).1
     obtain⟨d1,d2,d3⟩:=AE L;have hz':z=s:=by
      rcases hzs with e|e
      .rw[e]at L;omega
      .exact e
     subst hz';obtain⟨S,g1,g2⟩:=hfg (k/z) (k%z) c d2 (by rw[<-d3];exact hk);refine⟨vs (k/z) (k%z),?_,M _ _ S c g1 g2⟩;have:=h.bR _ _ _ (hF (k/z) (k%z) d1 d2);rw[show o+k=o+k/z*z+k%z by omega];exact this
    obtain⟨V,h1,h2⟩:=hh.list;have m:V.length=Y.length*s:=by rw[<-h1.1];exact hfl
    refine⟨V,h1,m,fun I=>pQ,fun I U=>?_⟩;exact sX I s Y.length _ Y.length Z V m (fun j v hj=>by rw[U,gr];exact h2 j v hj)
  .simp at J
 .simp only[bm]at J;obtain⟨rfl,rfl⟩:=J;cases hx;exact⟨[],iK G,aK,fun I=>pQ,fun I U=>by simp[Builtin.firstCells]⟩
 .rename_i b;split at J
  .rename_i e;subst e;simp only[bm]at J;obtain⟨rfl,rfl⟩:=J;cases hx with
   |ad W _ hb=>
    subst hb;have hsz:W.data.toList.length=W.size:=by show W.data.toList.length=W.data.size;simp
    refine⟨W.data.toList.map fun x=>.int .u8 x.toNat,⟨aK,fun i c v hc M=>?_⟩,aK,fun I=>by simp[Builtin.lenOf,hsz],fun I U=>?_⟩
    .rw[gp]at hc M;cases hi:W.data.toList[i]? with
     |none=>rw[hi]at hc;simp at hc
     |some u=>
      rw[hi]at hc M;simp only[eB,ak]at hc M;subst hc M;exact .int _ _
    .simp only[Builtin.firstCells,eA]
     congr 1
     apply fT;have:(W.extract 0 W.data.toList.length).data.toList=W.data.toList:=by
      rw[Lib.extract_data,kX,Nat.sub_zero,List.take_length]
     simp only[sM,this]
  .simp at J
 .simp at J
def pR(z:Array Value)(n:Nat):(Builtin.zeroCells z n).toList.length=n*z.size:=by simp[Builtin.zeroCells]
def vH{ty:TypeId}(hd:P.underlying t=some (.slice e))(m:P.underlying u=some U)(V:∀k,U≠.int k)(J:aZ P e=some s)
 {a:Option Addr}{len cap:Nat} (O:len+n<=cap) {Z:ql} (Y:(Builtin.lenOf L).run P w=.ok n w) (W:(Builtin.firstCells s n L).run P w=.ok Z.toArray w) :
 (Builtin.append_ #[t,u] ty #[.slice a len cap,L]).run P w=(match a with
   |some a=>((storeCells (a.add (len*s)) Z).run P w).andThen fun _ I=>.ok (.slice (some a) (len+n) cap) I
   |none=>.ok (.slice none (len+n) cap) w):=by
 have C:(match U with|.int _=>true |_=>false)=false:=by cases U<;>first|rfl|exact(V _ rfl).elim
 simp only[Builtin.append_];simp[bU hd,bU m,eD J,Y];rw[aD O,W];cases a<;>simp
theorem AG{ty:TypeId}(hd:P.underlying t=some (.slice e))(m:P.underlying u=some U)(V:∀k,U≠.int k)(J:aZ P e=some s)(C:bT P e=some b)
 {Z:Value} (I:∀w,(zeroValue e).run P w=.ok Z w)
 {a:Option Addr}{len cap:Nat} (O:cap<len+n) (W:(len+n)*b<=cm) (o:len+n<=cm) {ov S:ql} (F:(Builtin.lenOf L).run P w=.ok n w) (hf:(Builtin.firstCells s n L).run P w.drew=.ok S.toArray w.drew)
 (ho:(Builtin.firstCells s len (.slice a len cap)).run P w.drew=.ok ov.toArray w.drew) :
 (Builtin.append_ #[t,u] ty #[.slice a len cap,L]).run P w=.ok (.slice (some ⟨w.heap.size,0,none⟩) (len+n) (grownCap w (len+n) cap e))
   (w.drew.alloc (.cells (ov++S++(Builtin.zeroCells Z.cells (grownCap w (len+n) cap e-(len+n))).toList).toArray e)):=by
 have hz':(match U with|.int _=>true |_=>false)=false:=by cases U<;>first|rfl|exact(V _ rfl).elim
 obtain⟨i,hi,M⟩:∃i,P.info? e=some i/\i.bytes=b:=by simpa [bT,dC]using C
 have hm:cm=70368744177664:=rfl;rw[hm]at W o;have A:¬(281474976710656<Builtin.nextslicecap (len+n) cap*b):=by
  have:=growslice_fits O (bytes:=b) aa;omega
 have Y:¬(9223372036854775807<((len:Int)+(n:Int))):=aa;have h1:¬(len+n<=cap):=aa;simp only[Builtin.append_];simp[bU hd,bU m,eD J,F,h1,j4 hi,M,Y,A,Question.forced,ho,hf,I,newRow,grownCap]
 congr 2
 apply fT;simp
def R.heap(h:R B H w G)(e:w'.heap=w.heap):R B H w' G:=by
 have k:∀a,w'.cell? a=w.cell? a:=fun a=>by simp[World.cell?,e]
 have M:∀a,w'.frozen? a=w.frozen? a:=fun a=>by simp[World.frozen?,e]
 exact{
  a8:=by rw[e];exact h.a8
  bW:=h.bW
  lt:=fun r b o x hr=>by rw[e];exact h.lt r b o x hr
  cells:=fun r b o x cs imm Z hr hc j c V=>by rw[k];exact h.cells r b o x cs imm Z hr hc j c V
  bO:=h.bO
  ext:=h.ext
  a2:=h.a2
  aV:=fun r b o x cs imm Z hr hc j V Y=>by rw[k,M];exact h.aV r b o x cs imm Z hr hc j V Y
  apart:=h.apart
  map:=fun r b o x S hr hc=>by rw[e];exact h.map r b o x S hr hc
  au:=h.au
  bR:=fun b o v W=>by rw[k];exact h.bR b o v W
  val:=h.val
  ca:=h.ca}
def Step.b3{V:Nat}{O:Gh}(h:Step B V G w.drew H' w' O):Step B V G w H' w' O:=
 ⟨h.r,h.ext,⟨h.fr.os,h.fr.tape,h.fr.output,h.fr.size,h.fr.block⟩,h.new,h.cj,h.mono,h.cA⟩
def dD.dw{o off len:Nat}(W:dD G w b o cs)(O:off+len*s=cs.length){cap:Nat}:
 ∃ov,bb G (cs.drop off) ov/\ov.length=len*s/\∀I,(∀a,I.cell? a=w.cell? a)->(Builtin.firstCells s len (.slice (some ⟨b,o+off,none⟩) len cap)).run P I=.ok ov.toArray I:=by
 obtain⟨vs,Z,U⟩:=(W.drop off).list;have m:vs.length=len*s:=by rw[<-Z.1,gn];omega
 exact⟨vs,Z,m,fun I Y=>sX I s len _ len cap vs m (fun j v V=>by rw[Y,gr];exact U j v V)⟩
def vI(h:gE P u=true):∃d,P.underlying u=some d/\∀k,d≠.int k:=by
 unfold gE at h;split at h
 .rename_i e hd;exact⟨_,hd,aK⟩
 .rename_i hd;exact⟨_,hd,aK⟩
 .simp at h
def AH(h:R B H w G)(keep:Bool)(s:Nat)(sv:AV):Step B H.next G w (fO keep H s sv) w G:=by
 unfold fO;split
 .rename_i r off len z;split
  .rename_i cs imm hg;split
   .rename_i hc;simp only[cI]at hc;have h1:off+len*s<cs.length:=by simpa [fA]using hc.1.2
    have h2:=nP hc.2;generalize off+len*s=m at h1 h2;have hgs:∀Y b',(H.set r (.cells (cs.take m) imm true)).get Y=some b'->(Y=r/\b'=.cells (cs.take m) imm true)\/(Y≠r/\H.get Y=some b'):=fun Y b' he=>by
     rw[a0]at he;split at he
     .rename_i e;simp only[ak]at he;exact .inl ⟨e,he.symm⟩
     .rename_i e;exact .inr ⟨e,he⟩
    have U:∀Y A C W,(H.set r (.cells (cs.take m) imm true)).get Y=some (.cells A C W)->∃Z,H.get Y=some (.cells Z C W)/\(∀(j:Nat) c,A[j]?=some c->Z[j]?=some c)/\A.length<=Z.length/\(∀x,cn x A W=cn x Z W):=fun Y A C W he=>by
     rcases hgs Y _ he with⟨rfl,e⟩|⟨_,e⟩
     .simp only[HB.cells.injEq]at e;obtain⟨rfl,rfl,rfl⟩:=e;refine⟨cs,hg,fun j c M=>?_,nN,fun x=>rfl⟩;rw[jZ]at M;split at M
      .exact M
      .simp at M
     .exact⟨A,e,fun _ _ h=>h,aA _,fun _=>rfl⟩
    refine⟨?_,l4 _,nJ _ _,kR _ _,fun _ _ h=>.inl h,aA _,fun _ _ _ h=>.inl h⟩;exact{
     a8:=h.a8
     bW:=h.bW
     lt:=h.lt
     cells:=fun Y b o x A C W hr V j c M=>by
      obtain⟨Z,O,e2,_⟩:=U Y A C W V;exact h.cells Y b o x Z C W hr O j c (e2 j c M)
     bO:=fun Y b o x A C W hr V j M hjl=>by
      obtain⟨Z,O,_,e3,_⟩:=U Y A C W V;exact h.bO Y b o x Z C W hr O j M aa
     ext:=fun Y b o x A C W hr V=>by
      obtain⟨Z,O,_,e3,e4⟩:=U Y A C W V;have:=h.ext Y b o x Z C W hr O;rw[e4];omega
     a2:=fun Y b o x A C W hr V=>by
      obtain⟨Z,O,_,e3,e4⟩:=U Y A C W V;have:=h.a2 Y b o x Z C W hr O;omega
     aV:=fun Y b o x A C W hr V j M hjl=>by
      obtain⟨Z,O,_,_,e4⟩:=U Y A C W V;exact h.aV Y b o x Z C W hr O j M (by rw[<-e4];exact hjl)
     apart:=fun ao b1 o1 x1 cs1 L J aC b2 o2 x2 cs2 I F hr1 hc1 hr2 S hne j j' q1 q2 q3 q4=>by
      obtain⟨cs01,O,_,_,e14⟩:=U ao cs1 L J hc1;obtain⟨cs02,e2,_,_,e24⟩:=U aC cs2 I F S;exact h.apart ao b1 o1 x1 cs01 L J aC b2 o2 x2 cs02 I F hr1 O hr2 e2 hne j j' q1 (by rw[<-e14];exact q2) q3 (by rw[<-e24];exact q4)
     map:=fun Y b o x es hr V=>by
      rcases hgs Y _ V with⟨_,e⟩|⟨_,e⟩
      .simp at e
      .exact h.map Y b o x es hr e
     au:=fun ao b1 o1 x1 es aC b2 o2 x2 hr1 hc1 hr2 S hne=>by
      rcases hgs ao _ hc1 with⟨_,e⟩|⟨_,e⟩
      .simp at e
      .refine h.au ao b1 o1 x1 es aC b2 o2 x2 hr1 e hr2 ?_ hne;rw[a0]at S;split at S
       .rename_i e2;rw[e2,hg];rfl
       .exact S
     bR:=h.bR
     val:=h.val
     ca:=h.ca}
   .exact eh h
  .exact eh h
 .exact eh h
structure zai (P:Program) (w:World) (t u ty e:TypeId) (s b:Nat) (xv:Value) (n:Nat) (nv:ql):Prop where
 fit:∀{a:Option Addr}{len cap:Nat},len+n<=cap->(Builtin.append_ #[t,u] ty #[.slice a len cap,xv]).run P w=(match a with
  |some a=>((storeCells (a.add (len*s)) nv).run P w).andThen fun _ w'=>.ok (.slice (some a) (len+n) cap) w'
  |none=>.ok (.slice none (len+n) cap) w)
 new:∀{zv:Value},(∀w,(zeroValue e).run P w=.ok zv w)->∀{a:Option Addr}{len cap:Nat}{ov:ql},cap<len+n->(len+n)*b<=cm->len+n<=cm->(Builtin.firstCells s len (.slice a len cap)).run P w.drew=.ok ov.toArray w.drew ->
  (Builtin.append_ #[t,u] ty #[.slice a len cap,xv]).run P w=.ok (.slice (some ⟨w.heap.size,0,none⟩) (len+n) (grownCap w (len+n) cap e))
    (w.drew.alloc (.cells (ov++nv++(Builtin.zeroCells zv.cells (grownCap w (len+n) cap e-(len+n))).toList).toArray e))
def vJ(h:R B H w G){keep:Bool}{ty:TypeId}{z O:qh}{nv:ql}{sv:AV}{svv xv:Value}(hs:aZ P e=some s)(hb:bT P e=some b)(hz:bM P e=some z)(hzl:z.length=s)
 (hA:zai P w t u ty e s b xv n nv) (h1:bb G O nv) (h2:nv.length=n*s) (hn0:n≠0) (hone:O.all AV.one=true) (hsv:VR G sv svv) (S:jQ keep (fO keep H s sv) s b sv n O=some (c,H')) :
 ∃v w' G',(Builtin.append_ #[t,u] ty #[svv,xv]).run P w=.ok v w'/\VR G' c v/\Step B H.next G w H' w' G':=by
 have hnl:O.length=n*s:=by rw[h1.1,h2]
 obtain⟨zv,hzr,hzv⟩:=l7 hz;have hzs:zv.cells.size=s:=by have:=(hzv G).1;rw[hzl]at this;simpa using this.symm
 have ht:=AH h keep s sv
 suffices hgoal:∃v w' G',(Builtin.append_ #[t,u] ty #[svv,xv]).run P w=.ok v w'/\VR G' c v/\Step B (fO keep H s sv).next G w H' w' G' by
  obtain⟨v,w',G',g1,g2,g3⟩:=hgoal;exact⟨v,w',G',g1,g2,ht.trans g3⟩
 replace h:=ht.r;clear ht;generalize fO keep H s sv=H at S h⊢;unfold jQ at S;split at S
 ·-- onto nil
  split at S
  .rename_i W;simp only[bm]at S;obtain⟨rfl,rfl⟩:=S;cases hsv;have Z:=hA.new hzr (a:=none) (len:=0) (cap:=0) (ov:=[]) aa (by simpa using W.1) (by simpa using W.2) (by simp[Builtin.firstCells]);have C:=pI (h.heap (w':=w.drew) rfl) h1 (Builtin.zeroCells zv.cells (grownCap w (0+n) 0 e-(0+n))).toList e;have V:=grownCap_ge w (0+n) 0 e;refine⟨_,_,_,Z,?_,C.b3⟩;rw[dd]at V⊢;refine .sl (js _ _ _) V ?_;rw[pR,hzs,h2];have:grownCap w n 0 e*s=n*s+(grownCap w n 0 e-n)*s:=sH;simp;omega
  .simp at S
 ·-- onto a row of its own
  rename_i r off len zz;split at S
  .rename_i cs imm hg;split at S
   .rename_i hcond2;obtain⟨hr1,hr2,hend,rfl,himm⟩:=hcond2;cases hsv with
    |sl hr hlc hcx=>
     rename_i Y m x0 cap;have hHolds:=h.cells _ _ _ _ _ _ _ hr hg;have hex:=h.ext _ _ _ _ _ _ _ hr hg;simp only[cn]at hex;have hoff:off<=cs.length:=aa;obtain⟨ov,o1,o2,o3⟩:=hHolds.dw (P:=P) (off:=off) (s:=zz) (len:=len) hend (cap:=cap)
     have M:r≠H.next:=fun e=>by have:=h.bW _ _ hr;omega
     by_cases I:len+n<=cap
     ·-- in its room
      have Z:=hA.fit (a:=some ⟨Y,m+off,none⟩) I;simp only[]at Z;rw[gr,eP,hend]at Z;have hcap:(len+n)*zz<=cap*zz:=nI _ I;rw[gM]at hcap;cases keep with
      |false=>
       simp only[bK,cT,bm]at S;obtain⟨rfl,rfl⟩:=S;obtain⟨w',hw,o⟩:=sO P hr cs.length O nv cs 0 H w h hg h1 (h1.a9 hone) aa aa nD aK;rw[hw]at Z;simp only[cA]at Z;rw[iJ,vl]at o;have J:=vm o.r (r:=r) (cs:=cs++O) (imm:=imm) hr eN (off:=off) dj;refine⟨_,w',_,Z,?_,(o.trans J).congr rfl fun k _=>?_⟩
       .refine .sl (js _ _ _) I ?_;omega
       .rw[aP,aP,fX,fX,a0,sY hoff];simp only[kT,cH];by_cases U:k=H.next
        .simp only[U,cy]
        .by_cases e2:k=r
         .simp only[e2,cy]
         .simp only[U,e2,cT]
      |true=>
       simp only[cy,bm]at S;obtain⟨rfl,rfl⟩:=S;have L:=nM h hr hg (n:=cs.length) himm (aA _) true (fun _=>rfl);obtain⟨w',hw,o⟩:=sO P (G:=G.aB w Y m cs.length) (r:=r) (imm:=cs.length) (tip:=true) hr cs.length O nv cs 0 _ w L.r eN (h1.mono L.ext) (h1.a9 hone) aa aa nD aK;rw[hw]at Z;simp only[cA]at Z;rw[iJ,vl]at o;have hgr:((H.set r (.cells cs cs.length true)).set r (.cells (cs++O) cs.length true)).get r=some (.cells (cs++O) cs.length true):=eN;have J:=vm o.r (r:=r) (cs:=cs++O) (imm:=cs.length) hr hgr (off:=off) dj;have hmid:=(L.trans o).trans J;have hrr:((G.aB w Y m cs.length).add H.next (Y,m+off,x0-off)).β r=some (Y,m,x0):=by
        simp only[Gh.add];rw[aw M];exact hr
       have hnoMap:∀ao b1 o1 x1 es,((G.aB w Y m cs.length).add H.next (Y,m+off,x0-off)).β ao=some (b1,o1,x1) ->
        ((((H.set r (.cells cs cs.length true)).set r (.cells (cs++O) cs.length true)).aG r).alloc (.cells ((cs++O).drop off) (cs.length-off) true)).get ao=some (.map es)->b1≠Y:=fun ao b1 o1 x1 es g1 g2=>by
        rw[aP,fX,a0,a0]at g2;simp only[kT,cH]at g2;by_cases hne:ao=H.next
        .simp[hne]at g2
        .by_cases F:ao=r
         .simp[F]at g2
         .simp only[hne,F,cT]at g2;have g1':G.β ao=some (b1,o1,x1):=by simp only[Gh.add]at g1;rw[aw hne]at g1;exact g1
          exact h.au ao b1 o1 x1 es r Y m x0 g1' g2 hr (by rw[hg];rfl) F
       have hHolds':dD ((G.aB w Y m cs.length).add H.next (Y,m+off,x0-off)) w' Y m cs:=fun j c hj=>by
        have hjl:j<cs.length:=(ci.1 hj).1;have h5:=o.r.cells r Y m x0 _ _ _ hr hgr j c (by rw[h8 hjl];exact hj);obtain⟨v,q1,q2⟩:=h5;exact⟨v,q1,q2.mono J.ext⟩
       have hFF:∀j,j<cs.length->∃v,((G.aB w Y m cs.length).add H.next (Y,m+off,x0-off)).F Y (m+j)=some v:=fun j hj=>
        L.r.bO r Y m x0 cs cs.length true hr eN j hj hj
       have hrev:=Ag hmid.r hrr (h.a2 _ _ _ _ _ _ _ hr hg) hHolds' hFF hnoMap;refine⟨_,w',_,Z,?_,(hmid.trans hrev).congr rfl fun k _=>?_⟩
       .refine .sl (js _ _ _) I ?_;omega
       .rw[a0,aP,aP,fX,a0,a0,a0,sY hoff];simp only[kT,cH];have:cs.length-off=len*zz:=aa;rw[this];by_cases U:k=r
        .subst U;simp only[M,cy,cT]
        .simp only[U,cT]
     ·-- a O row
      have hfit':cap<len+n:=aa;have Z:=hA.new hzr (a:=some ⟨Y,m+off,none⟩) hfit' hr1 hr2 (o3 w.drew (fun _=>rfl));have V:=grownCap_ge w (len+n) cap e;have hlen2:(ov++nv).length=(len+n)*zz:=by rw[lZ,o2,h2,gM]
      have hcapx:grownCap w (len+n) cap e*zz=(ov++nv).length+(Builtin.zeroCells zv.cells (grownCap w (len+n) cap e-(len+n))).toList.length:=by
       rw[pR,hzs,hlen2,<-gM];congr 1;omega
      have C:=(pI (h.heap (w':=w.drew) rfl) (o1.append h1) (Builtin.zeroCells zv.cells (grownCap w (len+n) cap e-(len+n))).toList e).b3;have hnn:∀(X:HB) (k:Nat),k≠H.next->(H.alloc X).get k=H.get k:=fun X k hk=>by rw[aP,aw hk]
      have A:∀p,(G.add H.next p).β H.next=some p:=fun p=>js _ _ _
      have hlenX:(cs.drop off++O).length=(len+n)*zz:=by rw[lZ,gn,hnl,gM];omega
      cases keep with
      |false=>
       simp only[bK,cT,bm]at S;obtain⟨rfl,rfl⟩:=S;have hk:=C.r.aG r;have hgx:((H.alloc (.cells (cs.drop off++O) 0 true)).aG r).get H.next=some (.cells (cs.drop off++O) 0 true):=by
        rw[fX,aw (Ne.symm M),aP,aD rfl]
       have L:=nM hk (A _) hgx (n:=imm-off) (eC _) (by rw[hlenX,gM];omega) true (fun _=>rfl);have hst2:Step B H.next G w _ _ _:=⟨hk,C.ext,C.fr,C.new,C.cj,C.mono,C.cA⟩
       refine⟨_,_,_,Z,?_,(hst2.trans L).congr rfl fun k _=>?_⟩
       .exact .sl (A _) V aa
       .rw[a0,aP,fX,fX,aP];simp only[kT];by_cases U:k=H.next
        .simp only[U,cy]
        .simp only[U,cT]
      |true=>
       simp only[cy,bm]at S;obtain⟨rfl,rfl⟩:=S;have hgx:(H.alloc (.cells (cs.drop off++O) 0 true)).get H.next=some (.cells (cs.drop off++O) 0 true):=gK
       have L:=nM C.r (A _) hgx (n:=len*zz) (eC _) (by rw[hlenX,gM];omega) true (fun _=>rfl);have hgr:((H.alloc (.cells (cs.drop off++O) 0 true)).set H.next (.cells (cs.drop off++O) (len*zz) true)).get r=some (.cells cs imm true):=by
        rw[a0,aw M,hnn _ _ M];exact hg
       have hice2:=nM L.r (r:=r) (by
        show(G.add H.next _).β r=_;simp only[Gh.add];rw[aw M];exact hr) hgr (n:=cs.length) himm (aA _) false aK
       refine⟨_,_,_,Z,?_,((C.trans L).trans hice2).congr rfl fun k _=>?_⟩
       .exact .sl (A _) V aa
       .rw[a0,a0,aP,aP,a0];simp only[cH];by_cases U:k=H.next
        .have e3:¬H.next=r:=fun e=>M e.symm
         simp only[U,e3,cy,cT]
        .simp only[U,cT]
   .simp at S
  .simp at S
 .simp at S
theorem AI{ty:TypeId}{k k':IntKind}(hd:P.underlying t=some (.slice e))(hu:P.underlying u=some (.int k'))(hs:aZ P e=some s)(hb:bT P e=some b)
  (C:∀w,(zeroValue e).run P w=.ok Y w) (I:Y.cells.size=s)  (h1:n*b<=cm) (h2:n<=cm) :
 zai P w t u ty e s b (.int k (n:Int)) n (Builtin.zeroCells Y.cells n).toList:=by
 obtain⟨i,hi,M⟩:∃i,P.info? e=some i/\i.bytes=b:=by simpa [bT,dC]using hb
 have hm:cm=70368744177664:=rfl;rw[hm]at h1 h2;have J:IntKind.i64.wrap (n:Int)=n:=by
  unfold IntKind.wrap;simp[IntKind.signed,IntKind.bits];omega
 have V:¬((n:Int)<0):=aa;have L:¬(281474976710656<(n:Int)*(b:Int)):=by
  have:(n:Int)*(b:Int)=((n*b:Nat):Int):=by push_cast;rfl
  omega
 have U:n*s=0->(Builtin.zeroCells Y.cells n).toList=[]:=fun e=>List.eq_nil_of_length_eq_zero (by rw[pR,I,e]);have S:∀w,(asInt (.int k (n:Int))).run P w=.ok (n:Int) w:=fun w=>by simp[asInt,asIntOf]
 refine⟨fun{a F Z} O=>?_,fun{A} m {a F Z ov} O W o ho=>?_⟩
 .simp only[Builtin.append_];simp[bU hd,bU hu,eD hs,j4 hi,M,S,J,V,L,C];rw[aD O];by_cases e:n*s=0
  .rw[aD e,U e];cases a<;>simp
  .rw[aw e];cases a<;>simp
 .obtain rfl:A=Y:=by
   have:=(m w).symm.trans (C w);simpa using this
  rw[hm]at W o;have h48:¬(281474976710656<Builtin.nextslicecap (F+n) Z*b):=by
   have:=growslice_fits O (bytes:=b) aa;omega
  have h63:¬(9223372036854775807<((F:Int)+(n:Int))):=aa;have h1':¬(F+n<=Z):=aa;simp only[Builtin.append_];simp[bU hd,bU hu,eD hs,j4 hi,M,S,J,V,L,h1',h63,h48,Question.forced,ho,C,newRow,grownCap];by_cases e0:n*s=0
  .rw[aD e0,U e0]
   congr 3
   apply fT;simp
  .rw[aw e0]
   congr 3
   apply fT;simp
theorem vK{z:qh}(h:z.all AV.one=true):∀n,(eY z n).all AV.one=true
 |0=>rfl
 |n+1=>by rw[eY,List.all_append,h,vK h n];rfl
def AJ(h:R B H w G){keep:Bool}{ty:TypeId}{sv:AV}{C xv:Value}(I:VR G sv C)(hx:VR G x xv)(S:dh P keep H t u sv x=some (c,H')):
 ∃v w' G',(Builtin.append_ #[t,u] ty #[C,xv]).run P w=.ok v w'/\VR G' c v/\Step B H.next G w H' w' G':=by
 unfold dh at S;split at S
 .rename_i e hd;split at S
  .rename_i s b z L hb hz;split at S
   .rename_i uZ W A;obtain⟨du,F,Z⟩:=vI W;obtain⟨nv,h1,h2,h3,h4⟩:=sZ (P:=P) h hx A;have hnv:nv=[]:=by rw[Nat.zero_mul]at h2;exact vG.1 h2
    subst hnv;have J:∀a len cap,C=.slice a len cap->len<=cap->(Builtin.append_ #[t,u] ty #[C,xv]).run P w=.ok C w:=fun a len cap e O=>by
     subst e;rw[vH hd F Z L (n:=0) aa (h3 w) (h4 w (fun _=>rfl))];cases a<;>simp[storeCells]
    split at S
    .simp only[bm]at S;obtain⟨rfl,rfl⟩:=S;refine⟨C,w,G,?_,I,eh h⟩;cases I with
     |sl hr hl hc=>exact J _ _ _ rfl hl
    .simp only[bm]at S;obtain⟨rfl,rfl⟩:=S;refine⟨C,w,G,?_,I,eh h⟩;cases I with
     |af vs hz hF hv hc=>exact J _ _ _ rfl hc
     |b1 a cap=>exact J _ _ _ rfl (eC _)
    .simp only[bm]at S;obtain⟨rfl,rfl⟩:=S;refine⟨C,w,G,?_,I,eh h⟩;cases I with
     |ab=>exact J _ _ _ rfl (aA _)
    .simp at S
   .rename_i n new hnz W A;obtain⟨du,F,Z⟩:=vI W;obtain⟨nv,h1,h2,h3,h4⟩:=sZ (P:=P) h hx A;have hn0:n≠0:=fun e=>by subst e;exact hnz rfl
    split at S
    .rename_i V;exact vJ h L hb hz V.2 ⟨fun O=>vH hd F Z L O (h3 w) (h4 w (fun _=>rfl)),fun{o} Y {a len cap ov} O hr1 hr2 ho=>AG hd F Z L hb Y O hr1 hr2 (h3 w) (h4 w.drew (fun _=>rfl)) ho⟩ h1 h2 hn0 V.1 I S
    .simp at S
   .unfold u5 at S;split at S
    .rename_i k' k m F _ _;split at S
     .rename_i V;obtain⟨hc1,hc2,U,hc4⟩:=V;obtain⟨o,Y,hzv⟩:=l7 hz;have M:o.cells.size=s:=by have:=(hzv G).1;rw[U]at this;simpa using this.symm
      cases hx;have hA:=AI (P:=P) (w:=w) (t:=t) (ty:=ty) (k:=k) hd F L hb Y M hc1 hc2;have hzn:∀n,bb G (eY z n) (Builtin.zeroCells o.cells n).toList:=fun n=>by
       have:=sU (hzv G) n;unfold Builtin.zeroCells;have e:z.length=o.cells.size:=by rw[U,M]
       rw[e]at this;exact this
      split at S
      .have hz0:(Builtin.zeroCells o.cells 0).toList=[]:=by simp[Builtin.zeroCells]
       have J:∀a len cap,C=.slice a len cap->len<=cap->(Builtin.append_ #[t,u] ty #[C,.int k (Int.ofNat 0)]).run P w=.ok C w:=fun a len cap e O=>by
        subst e;have:=hA.fit (a:=a) (len:=len) (cap:=cap) aa;rw[hz0]at this;refine Eq.trans this ?_;cases a<;>simp[storeCells]
       split at S
       .simp only[bm]at S;obtain⟨rfl,rfl⟩:=S;refine⟨C,w,G,?_,I,eh h⟩;cases I with
        |sl hr hl hc=>exact J _ _ _ rfl hl
       .simp only[bm]at S;obtain⟨rfl,rfl⟩:=S;refine⟨C,w,G,?_,I,eh h⟩;cases I with
        |af vs hz hF hv hc=>exact J _ _ _ rfl hc
        |b1 a cap=>exact J _ _ _ rfl (eC _)
       .simp only[bm]at S;obtain⟨rfl,rfl⟩:=S;refine⟨C,w,G,?_,I,eh h⟩;cases I with
        |ab=>exact J _ _ _ rfl (aA _)
       .simp at S
      .rename_i m;exact vJ h L hb hz U hA (hzn _) (by rw[pR,M]) aa (vK hc4 _) I S
     .simp at S
    .simp at S
  .simp at S
 .simp at S
end
section
variable {P:Program} {B:Bs} {G:Gh} {H H':Hp} {w:World}
def AK(J:ByteArray):J.data.toList.length=J.size:=vc
def vL(h:R B H w G){mv:Value}{es:qx}(W:VR G m mv)(Z:jR H m=some es):
 (mv=.map none/\es=[])\/∃r b o x ms F,m=.map r/\mv=.map (some b)/\G.β r=some (b,o,x)/\H.get r=some (.map es)/\w.heap[b]?=some (.map ms F)/\jp G es ms.toList:=by
 unfold jR at Z;split at Z
 .simp only[ak]at Z;subst Z;cases W;exact .inl ⟨rfl,rfl⟩
 .rename_i r;split at Z
  .rename_i Y L;simp only[ak]at Z;subst Z;cases W with
   |map hr=>
    rename_i b o x;obtain⟨ms,F,V,U⟩:=h.map r b o x _ hr L;exact .inr ⟨r,b,o,x,ms,F,rfl,rfl,hr,L,V,U⟩
  .simp at Z
 .simp at Z
def nS{ms:Array MapEntry}(h:w.heap[b]?=some (.map ms F)):(getObj b).run P w=.ok (.map ms F) w:=by
 simp[getObj,Sem.run,h]
def AL(h:R B H w G){ty:TypeId}(U:VR G x L)(O:dr P H t x=some c):∃v,(Builtin.len_ #[t] ty #[L]).run P w=.ok v w/\VR G c v:=by
 unfold dr at O;split at O
 .rename_i hd;split at O
  .simp only[ak]at O;subst O;cases U with
   |ad I _ J=>
    subst J;refine⟨_,?_,.int _ _⟩;rw[AK];simp[Builtin.len_,bU hd,goInt]
  .simp at O
 .rename_i e hd;split at O
  .simp only[ak]at O;subst O;cases U;exact⟨_,nO,.int _ _⟩
  .simp only[ak]at O;subst O;cases U
   .exact⟨_,nO,.int _ _⟩
   .exact⟨_,nO,.int _ _⟩
  .simp only[ak]at O;subst O;cases U;exact⟨_,nO,.int _ _⟩
  .simp at O
 .rename_i n e hd;simp only[ak]at O;subst O;refine⟨.int .i64 n,?_,.int _ _⟩;simp only[Builtin.len_];simp[bU hd,goInt]
 .rename_i W e hd;split at O
  .rename_i S Z;simp only[ak]at O;subst O;rcases vL h U Z with⟨rfl,rfl⟩|⟨r,b,o,V,ms,F,rfl,rfl,hr,M,m,Y⟩
   .exact⟨_,nO,.int _ _⟩
   .refine⟨.int .i64 S.length,?_,.int _ _⟩;have:ms.size=S.length:=by have:=Y.1;simpa using this.symm
    simp[Builtin.len_,bU hd,nS m,goInt,this]
  .simp at O
 .simp at O
def AM{O:Bool}(U:VR G x L)(S:VR G y Y)(h:mm O x y=some c):∃v,((if O then Builtin.max2 else Builtin.min2) L Y).run P w=.ok v w/\VR G c v:=by
 unfold mm at h;split at h
 .simp only[ak]at h;subst h;cases U;cases S;cases O
  .refine⟨_,rfl,?_⟩;simp only[bK,cT,dE];exact .int _ _
  .refine⟨_,rfl,?_⟩;simp only[cy,dE];exact .int _ _
 .simp at h
theorem s0{O:Bool}:∀{I:qh}{W:ql}{x c:AV}{L:Value},VR G x L->bb G I W->gF O x I=some c ->
 ∃v,(W.foldlM (if O then Builtin.max2 else Builtin.min2) L).run P w=.ok v w/\VR G c v
 |[],W,x,c,L,hx,hxs,h=>by
  simp only[gF,ak]at h;subst h;have:W=[]:=by have:=hxs.1;simpa using this.symm
  subst this;exact⟨L,rfl,hx⟩
 |y::ys,[],_,_,_,_,hxs,_=>by have:=hxs.1;simp at this
 |y::ys,yv::yvs,x,c,L,hx,hxs,h=>by
  obtain⟨m,o⟩:=hxs.aE;simp only[gF]at h;split at h
  .rename_i z C;obtain⟨Z,Y,U⟩:=AM (P:=P) (w:=w) hx m C;obtain⟨v,bD,a4⟩:=s0 U o h;exact⟨v,by rw[List.foldlM_cons,cw,Y];exact bD,a4⟩
  .simp at h
def s3(h:fP P t=some d):P.underlying t=some d/\((∃k,d=.int k)\/d=.string\/d=.bool):=by
 unfold fP at h;split at h<;>simp only[ak,reduceCtorEq]at h<;>subst h
 .rename_i k hd;exact⟨hd,.inl ⟨k,rfl⟩⟩
 .rename_i hd;exact⟨hd,.inr (.inl rfl)⟩
 .rename_i hd;exact⟨hd,.inr (.inr rfl)⟩
def s4{r:Bool}(U:VR G x L)(S:VR G y Y)(h:gj d x y=some r):Instr.sameNow d L Y=some r:=by
 unfold gj at h;split at h
 .split at h
  .cases U;cases S;exact h
  .simp at h
 .split at h
  .cases U with
   |ad a _ Z=>cases S with
    |ad b _ C=>
     subst Z C;simp only[ak]at h;subst h;simp only[Instr.sameNow,ak];show(a.data == b.data)=(a.data.toList == b.data.toList);rw[Bool.eq_iff_iff];simp only[gL,Array.toList_inj]
  .simp at h
 .split at h
  .cases U;cases S;exact h
  .simp at h
 .simp at h
theorem s6{d:TypeDesc}{k:AV}{kv:Value}(A:VR G k kv):∀{S:qx}{ms:List MapEntry}{i:Nat},jp G S ms ->
 (cr d k S i=some none->Instr.findNow d kv ms i=some none) /\
 (∀j v,cr d k S i=some (some (j,v))->∃k' m,S[j-i]?=some (k',v)/\ms[j-i]?=some m/\i<=j/\gj d k k'=some true/\Instr.findNow d kv ms i=some (some (j,m.val)))
 |[],ms,i,he=>by
  have:ms=[]:=by have:=he.1;simpa using this.symm
  subst this;exact⟨fun _=>rfl,fun j v h=>by simp[cr]at h⟩
 |e::S,[],i,he=>by have:=he.1;simp at this
 |(k',o)::S,m::ms,i,he=>by
  obtain⟨Y,F⟩:=he.2 0 (k',o) m rfl rfl;have W:jp G S ms:=⟨by simpa using he.1,fun j a b U C=>he.2 (j+1) a b (by simpa using U) (by simpa using C)⟩;obtain⟨ao,aC⟩:=s6 (d:=d) A (i:=i+1) W;constructor
  .intro h;simp only[cr]at h;split at h
   .simp at h
   .rename_i Z;have:=s4 A Y Z;simp only[Instr.findNow,this];exact ao h
   .simp at h
  .intro j v h;simp only[cr]at h;split at h
   .rename_i Z;simp only[bm]at h;obtain⟨rfl,rfl⟩:=h;have:=s4 A Y Z;exact⟨k',m,aK,aK,aA _,Z,by simp only[Instr.findNow,this]⟩
   .rename_i Z;have:=s4 A Y Z;obtain⟨a4,O,M,L,g3,J,I⟩:=aC j v h;have V:j-i=(j-(i+1))+1:=aa;refine⟨a4,O,by rw[V];simpa using M,by rw[V];simpa using L,aa,J,?_⟩;simp only[Instr.findNow,this];exact I
   .simp at h
theorem AN(n:Nat)(hd:fP P W=some d)(e:Bool)(kv:Value):(Instr.checkKey e (n+1) W kv).run P w=.ok () w:=by
 obtain⟨m,o⟩:=s3 hd;simp only[Instr.checkKey,cw,bU m,cA];rcases o with⟨k,rfl⟩|rfl|rfl<;>rfl
def nT(hd:fP P W=some d)(e:Bool)(kv:Value):(Instr.checkKey e 10000 W kv).run P w=.ok () w:=AN 9999 hd e kv
def nU(hd:P.underlying W=some d){kv:Value}{ms:List MapEntry}{r:Option (Nat×Value)}(h:Instr.findNow d kv ms 0=some r):(Instr.findKey W kv ms).run P w=.ok r w:=by
 simp[Instr.findKey,bU hd,h]
def AO{V:TypeId}(hd:P.underlying t=some (.map V e))(A:fP P V=some d){mv kv:Value}{ok:Bool}{ms:Array MapEntry}
 (U:(mv=.map none/\ms=#[])\/∃b F,mv=.map (some b)/\w.heap[b]?=some (.map ms F)) :
 (∀j v,Instr.findNow d kv ms.toList 0=some (some (j,v))->(Instr.lookup t mv kv ok).run P w=.ok (if ok then .tuple #[v,.bool true]else v) w) /\
 (∀W,(zeroValue e).run P w=.ok W w->Instr.findNow d kv ms.toList 0=some none->(Instr.lookup t mv kv ok).run P w=.ok (if ok then .tuple #[W,.bool false]else W) w):=by
 have I:=(s3 A).1;rcases U with⟨rfl,rfl⟩|⟨b,F,rfl,m⟩
 .refine⟨fun j v Y=>by simp[Instr.findNow]at Y,fun W C Y=>?_⟩;have Z:=nU (P:=P) (w:=w) I Y;simp only[Instr.lookup,cw,bU hd,cA,eA,nT A,Z,C]
 .refine⟨fun j v Y=>?_,fun W C Y=>?_⟩
  .have Z:=nU (P:=P) (w:=w) I Y;simp only[Instr.lookup,cw,bU hd,cA,nS m,eA,nT A,Z]
  .have Z:=nU (P:=P) (w:=w) I Y;simp only[Instr.lookup,cw,bU hd,cA,nS m,eA,nT A,Z,C]
def AP(h:R B H w G){mv kv:Value}{ok:Bool}(L:VR G m mv)(A:VR G k kv)(O:di P H t m k ok=some c):
 ∃v,(Instr.lookup t mv kv ok).run P w=.ok v w/\VR G c v:=by
 unfold di at O;split at O
 .rename_i kt e hd;split at O
  .rename_i I M Y J;obtain⟨ms,V,U⟩:∃ms:Array MapEntry,((mv=.map none/\ms=#[])\/∃b F,mv=.map (some b)/\w.heap[b]?=some (.map ms F))/\jp G I ms.toList:=by
    rcases vL h L Y with⟨rfl,rfl⟩|⟨r,b,o,xx,ms,F,rfl,rfl,hr,hg,hw,he⟩
    .exact⟨#[],.inl ⟨rfl,rfl⟩,rfl,aK⟩
    .exact⟨ms,.inr ⟨b,F,rfl,hw⟩,he⟩
   obtain⟨C,f2⟩:=s6 (d:=M) A (i:=0) U;obtain⟨ao,aC⟩:=AO (kv:=kv) (ok:=ok) hd J V;split at O
   .rename_i j v W;simp only[ak]at O;subst O;obtain⟨k',m',g1,g2,_,_,g5⟩:=f2 j v W;have Z:=(U.2 _ _ _ g1 g2).2;refine⟨_,ao _ _ g5,?_⟩;cases ok
    .exact Z
    .exact .aC (vs:=[m'.val,.bool true]) rfl (gq Z (gq (.bool true) (iK _))).2
   .rename_i W;split at O
    .rename_i v Z;simp only[ak]at O;subst O;obtain⟨zv,z1,S⟩:=Ah Z;refine⟨_,aC _ (z1 w) (C W),?_⟩;cases ok
     .exact S G
     .exact .aC (vs:=[zv,.bool false]) rfl (gq (S G) (gq (.bool false) (iK _))).2
    .simp at O
   .simp at O
  .simp at O
 .simp at O
end
section
variable {P:Program} {B:Bs} {G:Gh} {H H':Hp} {w:World}
def vM(h:R B H w G){r o x:Nat}{es V:qx}{ms':Array MapEntry}{clock':Nat}(hr:G.β r=some (b,o,x))(hg:H.get r=some (.map es))(he:jp G V ms'.toList):
 Step B H.next G w (H.set r (.map V)) {w with heap:=w.heap.setIfInBounds b (.map ms' clock') } G:=by
 obtain⟨ms,clock,hw,_⟩:=h.map r b o x es hr hg;have hb:b<w.heap.size:=(h.lt r b o x hr).2
 let w':World:={w with heap:=w.heap.setIfInBounds b (.map ms' clock') }
 have M:∀k,k≠b->w'.heap[k]?=w.heap[k]?:=fun k Y=>by
  show(w.heap.setIfInBounds b _)[k]?=_;rw[kO,aw (Ne.symm Y)]
 have hheapb:w'.heap[b]?=some (.map ms' clock'):=by
  show(w.heap.setIfInBounds b _)[b]?=_;simp[hb]
 have U:∀b' L v,w.cell? ⟨b',L,none⟩=some v->b'≠b:=fun b' L v hc e=>by
  subst e;unfold World.cell? at hc;rw[hw]at hc;simp at hc
 have I:∀b' L v,w.cell? ⟨b',L,none⟩=some v->w'.cell? ⟨b',L,none⟩=some v:=fun b' L v hc=>by
  rw[World.cell?_of_block (w:=w) (M b' (U b' L v hc))];exact hc
 have A:∀k,k≠r->(H.set r (.map V)).get k=H.get k:=fun k Y=>by rw[a0,aw Y]
 have J:(H.set r (.map V)).get r=some (.map V):=eN;refine⟨?_,l4 _,⟨rfl,rfl,rfl,aK,fun k Y hn=>M k (fun e=>hn r b o x hr e.symm)⟩,kR _ _,fun _ _ h=>.inl h,aA _,fun _ _ _ h=>.inl h⟩;exact{
  a8:=by have:=h.a8;simpa using this
  bW:=h.bW
  lt:=fun r b o x hr=>by have:=h.lt r b o x hr;simpa using this
  cells:=fun k b' L W cs imm Z Y hc=>by
   by_cases e:k=r
   .subst e;rw[J]at hc;simp at hc
   .rw[A k e]at hc;intro j c hj;obtain⟨v,h1,h2⟩:=h.cells k b' L W cs imm Z Y hc j c hj;exact⟨v,I _ _ _ h1,h2⟩
  bO:=fun k b' L W cs imm Z Y hc=>by
   by_cases e:k=r
   .subst e;rw[J]at hc;simp at hc
   .rw[A k e]at hc;exact h.bO k b' L W cs imm Z Y hc
  ext:=fun k b' L W cs imm Z Y hc=>by
   by_cases e:k=r
   .subst e;rw[J]at hc;simp at hc
   .rw[A k e]at hc;exact h.ext k b' L W cs imm Z Y hc
  a2:=fun k b' L W cs imm Z Y hc=>by
   by_cases e:k=r
   .subst e;rw[J]at hc;simp at hc
   .rw[A k e]at hc;exact h.a2 k b' L W cs imm Z Y hc
  aV:=fun k b' L W cs imm Z Y hc j hj hjl=>by
   by_cases e:k=r
   .subst e;rw[J]at hc;simp at hc
   .rw[A k e]at hc;obtain⟨⟨v,h1⟩,h2,h3⟩:=h.aV k b' L W cs imm Z Y hc j hj hjl;refine⟨⟨v,I _ _ _ h1⟩,?_,h3⟩;rw[World.frozen?_of_block (w:=w) (M b' (U _ _ _ h1))];exact h2
  apart:=fun bD b1 o1 x1 cs1 imm1 tip1 a4 b2 o2 x2 cs2 imm2 tip2 m S O F=>by
   by_cases e1:bD=r
   .subst e1;rw[J]at S;simp at S
   .by_cases e2:a4=r
    .subst e2;rw[J]at F;simp at F
    .rw[A bD e1]at S;rw[A a4 e2]at F;exact h.apart bD b1 o1 x1 cs1 imm1 tip1 a4 b2 o2 x2 cs2 imm2 tip2 m S O F
  map:=fun k b' L W C Y hc=>by
   by_cases e:k=r
   .subst e;have hk':=Y;rw[hr]at hk';simp only[bm]at hk';obtain⟨rfl,rfl,rfl⟩:=hk';rw[J]at hc;simp only[ak,HB.map.injEq]at hc;subst hc;exact⟨ms',clock',hheapb,he⟩
   .rw[A k e]at hc;obtain⟨ms1,clock1,h1,h2⟩:=h.map k b' L W C Y hc;refine⟨ms1,clock1,?_,h2⟩;rw[M b' (fun eb=>h.au k b' L W C r b o x Y hc hr (by rw[hg];rfl) e eb)];exact h1
  au:=fun bD b1 o1 x1 C a4 b2 o2 x2 m S O hs hne=>by
   have hs':(H.get a4).isSome:=by
    by_cases e2:a4=r
    .subst e2;rw[hg];rfl
    .rw[A a4 e2]at hs;exact hs
   by_cases e1:bD=r
   .subst e1;exact h.au bD b1 o1 x1 es a4 b2 o2 x2 m hg O hs' hne
   .rw[A bD e1]at S;exact h.au bD b1 o1 x1 C a4 b2 o2 x2 m S O hs' hne
  bR:=fun b' L v hf=>I _ _ _ (h.bR b' L v hf)
  val:=h.val
  ca:=h.ca}
def vN{ms ms':Array MapEntry}{clock':Nat}(h:w.heap[b]?=some (.map ms F)):
 (setObj b (.map ms' clock')).run P w=.ok () {w with heap:=w.heap.setIfInBounds b (.map ms' clock') }:=by
 simp[setObj,Sem.run,h]
def AQ(n:Nat)(U:VR G x L)(S:VR G y Y)(h:gj d x y=some true):Instr.sameBits n Y L=true:=by
 unfold gj at h;split at h
 .split at h
  .split at h
   .rename_i e;subst e;cases U;cases S;simp only[ak,gL]at h;subst h;cases n<;>simp[Instr.sameBits]
   .simp at h
  .simp at h
 .split at h
  .cases U with
   |ad a _ Z=>cases S with
    |ad b _ W=>
     subst Z W;simp only[ak,gL]at h;have C:(b == a)=true:=by
      show(b.data == a.data)=true;simp only[gL];exact(fT h).symm
     cases n<;>simp[Instr.sameBits,C]
  .simp at h
 .split at h
  .cases U;cases S;simp only[ak,gL]at h;subst h;cases n<;>simp[Instr.sameBits]
  .simp at h
 .simp at h
theorem AR{F:Value}(h:Instr.sameBits 10000 F O=true):(Instr.keyThatStays F O).run P w=.ok O w:=by
 unfold Instr.keyThatStays;rw[aD h];rfl
def AS(h:R B H w G){mv kv:Value}(hm:VR G m mv)(L:VR G k kv)(hv:VR G v O)(Z:hT P H t m k v=some H'):
 ∃w',(Instr.mapUpdate t mv kv O).run P w=.ok () w'/\Step B H.next G w H' w' G:=by
 unfold hT at Z;split at Z
 .rename_i kt e hd;split at Z
  .rename_i r M J;split at Z
   .rename_i es hg;cases hm with
    |map hr=>
     rename_i b o x;obtain⟨ms,F,C,Y⟩:=h.map r b o x es hr hg;obtain⟨f1,f2⟩:=s6 (d:=M) L (i:=0) Y;have I:=(s3 J).1;split at Z
     .rename_i j v0 hf;simp only[ak]at Z;subst Z;obtain⟨k',m',g1,g2,_,g4,g5⟩:=f2 j v0 hf;simp only[Nat.sub_zero]at g1 g2;have hjl:j<ms.size:=by have:=(ci.1 g2).1;simpa using this
      have U:ms[j]?=some m':=by simpa using g2
      have W:=AQ 10000 L (Y.2 j _ _ g1 g2).1 g4;have V:=nU (P:=P) (w:=w) I g5;refine⟨_,?_,vM h hr hg (ms':=ms.modify j fun e=>{e with key:=kv,val:=O}) (clock':=F) ?_⟩
      .simp only[Instr.mapUpdate,cw,bU hd,cA,nS C,nT J,V,U,eB,bQ,AR W,vN C]
      .refine⟨by have:=Y.1;simpa using this,fun i a c S hc=>?_⟩;rw[List.getElem?_set]at S;rw[nQ,Array.getElem?_modify]at hc;by_cases e:j=i
       .subst e;rw[aD rfl]at hc;rw[aD rfl]at S;split at S
        .simp only[ak]at S;subst S;rw[U]at hc;simp only[eB,ak]at hc;subst hc;exact⟨L,hv⟩
        .simp at S
       .rw[aw e]at S hc;exact Y.2 i a c S nC
     .rename_i hf;simp only[ak]at Z;subst Z;have V:=nU (P:=P) (w:=w) I (f1 hf);refine⟨_,?_,vM h hr hg (ms':=ms.push {key:=kv,val:=O,born:=F}) (clock':=F+1) ?_⟩
      .simp only[Instr.mapUpdate,cw,bU hd,cA,nS C,nT J,V,vN C]
      .refine⟨by have:=Y.1;simpa using this,fun i a c S hc=>?_⟩;rw[Array.toList_push]at hc;have hl:=Y.1;by_cases hi:i<es.length
       .rw[h8 hi]at S;rw[h8 aa]at hc;exact Y.2 i a c S hc
       .rw[jk aa]at S;rw[jk aa]at hc;rw[<-hl]at hc;cases A:i-es.length with
        |zero=>
         rw[A]at S hc;simp at S hc;subst S hc;exact⟨L,hv⟩
        |succ n=>rw[A]at S;simp at S
     .simp at Z
   .simp at Z
  .simp at Z
 .simp at Z
theorem vO:∀{cs:qh}{bs:qi}{vs:ql},nj cs=some bs->bb G cs vs->∃o:qm,vs=o.map (Value.int .u8)/\bs=o.map fun n=>UInt8.ofNat n.toNat
 |[],bs,vs,h,hv=>by
  simp only[nj,ak]at h;subst h;have:vs=[]:=by have:=hv.1;simpa using this.symm
  subst this;exact⟨[],rfl,rfl⟩
 |c::cs,bs,[],h,hv=>by have:=hv.1;simp at this
 |c::cs,bs,v::vs,h,hv=>by
  obtain⟨m,Z⟩:=hv.aE;unfold nj at h;split at h
  .rename_i e;simp at e
  .rename_i n A e;simp only[nR]at e;obtain⟨rfl,rfl⟩:=e;split at h
   .rename_i J C;simp only[ak]at h;subst h;obtain⟨o,rfl,rfl⟩:=vO C Z;cases m;exact⟨n::o,rfl,rfl⟩
   .simp at h
  .simp at h
def AT(o:qm):∀s:ByteArray,(o.foldl (fun r n=>r.push (UInt8.ofNat n.toNat)) s).data.toList=s.data.toList++o.map fun n=>UInt8.ofNat n.toNat:=by
 induction o with
 |nil=>intro s;simp
 |cons n o ih=>intro s;rw[List.foldl_cons,ih];simp[ByteArray.push]
def AU(h:R B H w G){m S:TypeId}(U:VR G x O)(Z:gk P H m S x=some c):∃v,(convert m S O).run P w=.ok v w/\VR G c v:=by
 unfold gk at Z;split at Z
 .rename_i e J hd;split at Z
  .rename_i F;split at Z
   .rename_i n cs A;split at Z
    .rename_i bs L;obtain⟨nv,h1,h2,I,h4⟩:=sZ (P:=P) h U A;obtain⟨Y,M,rfl⟩:=vO L h1;split at Z
     .simp only[ak]at Z;subst Z;cases U with
      |sl hr hl hcx=>
       rename_i b o xx cap;have C:=I w;simp[Builtin.lenOf]at C;subst C;have W:=h4 w (fun _=>rfl);simp only[Builtin.firstCells,Nat.mul_one]at W;rw[M]at W;refine⟨_,by rw[run_convert_bytes_string w m S e _ _ _ J F hd,run_bytesToString w _ _ _ Y W],.ad _ _ ?_⟩;rw[AT];rfl
     .simp only[ak]at Z;subst Z;cases U;have C:=I w;simp[Builtin.lenOf]at C;have:Y=[]:=by
       have e1:(Y.map (Value.int .u8)).length=0:=by rw[<-M,h2,<-C]
       simpa using e1
      subst this;refine⟨.string .empty,?_,.ad _ _ rfl⟩;rw[run_convert_bytes_string w m S e _ _ _ J F hd];rfl
     .simp at Z
    .simp at Z
   .simp at Z
  .simp at Z
 .rename_i ds k hn J hd;split at Z
  .simp only[ak]at Z;subst Z;cases U;refine⟨_,?_,.int _ _⟩;simp[convert,bU J,bU hd,Conv.intToInt]
  .simp only[ak]at Z;subst Z;cases U;rename_i fw e0;refine⟨_,?_,.sx _ _⟩;simp[convert,bU J,bU hd,Conv.intToInt,Sx.eval]
  .simp at Z
 .rename_i hn J hd;split at Z
  .simp only[ak]at Z;subst Z;have V:=U;cases U with
   |ad sv _ F=>
    refine⟨.string sv,?_,V⟩;simp[convert,bU J,bU hd]
  .simp at Z
 .simp at Z
end
section
variable {P:Program} {B:Bs} {G:Gh} {H H':Hp} {w:World}
def kY(G:Gh)(E:ae)(a:Act)(xs:Array Operand):Prop:=∀x∈xs,∀c,ay E x=some c->VR G c (a.eval x)
theorem pS{E:ae}{a:Act}:∀{I:List Operand}{cs:qh},(∀x∈I,∀c,ay E x=some c->VR G c (a.eval x))->cN E I=some cs->bb G cs (I.map a.eval)
 |[],cs,_,h=>by
  simp only[cN,ak]at h;subst h;exact iK G
 |x::I,cs,hk,h=>by
  simp only[cN]at h;split at h
  .rename_i v vs M L;simp only[ak]at h;subst h;exact gq (hk x aK v M) (pS (fun y S=>hk y (by simp[S])) L)
  .simp at h
def fe{s:Sem Value}(h:R B H w G)(J:∃v,s.run P w=.ok v w/\VR G c v):kU P B H G w (do pure (.value (<-s))) c H:=by
 obtain⟨v,m,o⟩:=J;exact⟨.value v,w,G,v,by simp[m],.inl rfl,o,eh h⟩
def mc{s:Sem Value}(J:∃v I O,s.run P w=.ok v I/\VR O c v/\Step B H.next G w H' I O):kU P B H G w (do pure (.value (<-s))) c H':=by
 obtain⟨v,I,O,m,o,F⟩:=J;exact⟨.value v,I,O,v,by simp[m],.inl rfl,o,F⟩
def vP{s:Sem Unit}(J:∃I,s.run P w=.ok () I/\Step B H.next G w H' I G):kU P B H G w (do s;pure .skip) b5 H':=by
 obtain⟨I,m,o⟩:=J;exact⟨.skip,I,G,undef,by simp[m],.inr ⟨rfl,rfl⟩,nK G,o⟩
def vQ{x:Option Operand}{c:qk}(A:∀y∈x.toArray,∀c,ay E y=some c->VR G c (a.eval y))(h:ev E x=some c):kV G c (x.map a.eval):=by
 unfold ev at h;split at h
 .simp only[ak]at h;subst h;exact trivial
 .rename_i y;split at h
  .rename_i v M;simp only[ak]at h;subst h;exact A y aK v M
  .simp at h
def AW(A:jV o=true)(Z:kY G E a o.op.operands)(W:bE P D E H o.op=some (c,H')):ib P G w (execOp a.eval o) Next.value c H H':=by
 obtain⟨J,I,ty,F,V,guard⟩:=o;simp only[]at W Z;cases I<;>simp only[jV,cS,bK]at A
 case alloc t=>
  simp only[bE]at W;unfold nk at W;split at W
  .rename_i z C;simp only[bm]at W;obtain⟨rfl,rfl⟩:=W;obtain⟨U,m,z2⟩:=l7 C;refine ib.next ⟨.cells z 0 true,.cells (U.cells.toList++[]).toArray t,U.cells.toList.length+0,.pointer (some ⟨w.heap.size,0,none⟩),rfl,?_,.cells z U.cells.toList [] t (z2 G),fun S Y=>.ptr (off:=0) Y⟩
   simp[Instr.alloc,m,newVar,newRow]
  .simp at W
 case box t x=>
  simp only[bE]at W;unfold nl at W;split at W
  .rename_i v M;simp only[bm]at W;obtain⟨rfl,rfl⟩:=W;have hx:=(Z x cB _ M).cells;refine ib.next ⟨.cells v.cells 0 true,.cells ((a.eval x).cells.toList++[]).toArray t,(a.eval x).cells.toList.length+0,.pointer (some ⟨w.heap.size,0,none⟩),rfl,?_,.cells v.cells _ [] t hx,fun S Y=>.ptr (off:=0) Y⟩
   simp[Instr.box,newVar,newRow]
  .simp at W
 case buildSlice t len parts=>
  simp only[bE]at W;unfold np at W;split at W
  .rename_i ps O;obtain⟨q1,q2⟩:=pO (G:=G) (a:=a) (fun p hp=>Z p.2 sV) O;have:=vE (P:=P) (w:=w) q1 q2 W;have he:(parts.toList.map fun x=>(x.1,a.eval x.2)).toArray=parts.map fun(i,x)=>(i,a.eval x):=by
    apply fT;simp
   rw[he]at this;exact this.next
  .simp at W
 case makeMap t r=>
  simp only[bE]at W;unfold ns at W;split at W
  .simp only[bm]at W;obtain⟨rfl,rfl⟩:=W;refine ib.next ⟨.map [],.map #[] 0,0,.map (some w.heap.size),rfl,?_,.map,fun S Y=>.map Y⟩
   simp[Instr.makeMap]
  .simp at W
 case makeSlice t l c'=>
  simp only[bE]at W;unfold nt at W;split at W
  .rename_i lv cv L hc;exact(vF (Z l cB _ L) (Z c' cB _ hc) W).next
  .simp at W
 case call cl=>
  simp only[bE,reduceCtorEq]at W
def AY(h:R B H w G)(Z:kY G E a o.op.operands)(W:bE P B.cfg.bC E H o.op=some (c,H')):kU P B H G w (execOp a.eval o) c H':=by
 obtain⟨dst,op,ty,pos,after,guard⟩:=o;simp only[]at W Z;cases op<;>simp only[bE,reduceCtorEq]at W
 case move x=>
  obtain⟨Y,rfl⟩:=eQ W;exact l8 h rfl (Z x cB _ Y)
 case assign x=>
  obtain⟨Y,rfl⟩:=eQ W;exact l8 h rfl (Z x cB _ Y)
 case pick x y z=>
  unfold pm at W;split at W
  .rename_i hc;obtain⟨Y,rfl⟩:=eQ W;have J:=Z x cB _ hc;have:a.eval x=.bool true:=by generalize a.eval x=v at J;cases J;rfl
   exact l8 h (v:=a.eval y) (by simp[execOp,asBool,this]) (Z y cB _ Y)
  .rename_i hc;obtain⟨Y,rfl⟩:=eQ W;have J:=Z x cB _ hc;have:a.eval x=.bool false:=by generalize a.eval x=v at J;cases J;rfl
   exact l8 h (v:=a.eval z) (by simp[execOp,asBool,this]) (Z z cB _ Y)
  .simp at W
 case alloc t=>
  unfold nk at W;split at W
  .rename_i z hz;simp only[bm]at W;obtain⟨rfl,rfl⟩:=W;obtain⟨zv,z1,z2⟩:=l7 hz;have C:=pI h (z2 G) [] t;rw[jo,l2]at C;refine mc ⟨.pointer (some ⟨w.heap.size,0,none⟩),_,_,?_,?_,C⟩
   .simp[Instr.alloc,z1,newVar,newRow]
   .exact .ptr (off:=0) (js _ _ _)
  .simp at W
 case box t x=>
  unfold nl at W;split at W
  .rename_i v M;simp only[bm]at W;obtain⟨rfl,rfl⟩:=W;have C:=pI h (Z x cB _ M).cells [] t;rw[jo,l2]at C;refine mc ⟨.pointer (some ⟨w.heap.size,0,none⟩),_,_,?_,?_,C⟩
   .simp[Instr.box,newVar,newRow]
   .exact .ptr (off:=0) (js _ _ _)
  .simp at W
 case build t parts=>
  unfold pn at W;split at W
  .rename_i ps V;obtain⟨Y,rfl⟩:=eQ W;obtain⟨q1,q2⟩:=pO (G:=G) (a:=a) (fun p hp=>Z p.2 sV) V;have:=AC (P:=P) (w:=w) q1 q2 Y;have F:(parts.toList.map fun x=>(x.1,a.eval x.2)).toArray=parts.map fun(i,x)=>(i,a.eval x):=by
    apply fT;simp
   rw[F]at this;exact fe h this
  .simp at W
 case buildSlice t len parts=>
  unfold np at W;split at W
  .rename_i ps V;obtain⟨q1,q2⟩:=pO (G:=G) (a:=a) (fun p hp=>Z p.2 sV) V;have:=(vE (P:=P) (w:=w) q1 q2 W).sim h;have F:(parts.toList.map fun x=>(x.1,a.eval x.2)).toArray=parts.map fun(i,x)=>(i,a.eval x):=by
    apply fT;simp
   rw[F]at this;exact mc this
  .simp at W
 case load t x=>
  unfold nq at W;split at W
  .rename_i v M;obtain⟨Y,rfl⟩:=eQ W;exact fe h (vu h (Z x cB _ M) Y)
  .simp at W
 case store t x y=>
  unfold po at W;split at W
  .rename_i av vv ha M;split at W
   .rename_i H1 A;simp only[bm]at W;obtain⟨rfl,rfl⟩:=W;exact vP (Ai h (Z x cB _ ha) (Z y cB _ M) A)
   .simp at W
  .simp at W
 case nilCheck x=>
  unfold pp at W;split at W
  .rename_i r off M;simp only[bm]at W;obtain⟨rfl,rfl⟩:=W;have U:=Z x cB _ M;refine l8 h (v:=a.eval x) ?_ U;simp only[execOp];generalize a.eval x=v at U⊢;cases U;rfl
  .rename_i cs M;simp only[bm]at W;obtain⟨rfl,rfl⟩:=W;have U:=Z x cB _ M;refine l8 h (v:=a.eval x) ?_ U;simp only[execOp];generalize a.eval x=v at U⊢;cases U;rfl
  .simp at W
 case binOp op t x y yt=>
  unfold pq at W;split at W
  .rename_i L yv U S;obtain⟨Y,rfl⟩:=eQ W;exact fe h (Ay (by rw[h.val];exact h.ca) (Z x cB _ U) (Z y cB _ S) Y)
  .simp at W
 case unOp op t x=>
  unfold pr at W;split at W
  .rename_i L U;obtain⟨Y,rfl⟩:=eQ W;exact fe h (Az (Z x cB _ U) Y)
  .simp at W
 case convert s d x=>
  unfold nr at W;split at W
  .rename_i L U;obtain⟨Y,rfl⟩:=eQ W;exact fe h (AU h (Z x cB _ U) Y)
  .simp at W
 case makeFunc fn first captured=>
  unfold pu at W;split at W
  .rename_i f vs O hvs;simp only[bm]at W;obtain⟨rfl,rfl⟩:=W;have hf:first=#[]:=by apply fT;simpa using O
   subst hf;have:=pS (G:=G) (a:=a) (fun x U=>Z x (by simp[Op.operands];simpa using U)) hvs;refine fe h ⟨.func (.func f) #[] (captured.map a.eval),by simp[Instr.makeFunc],?_⟩;have F:captured.map a.eval=(captured.toList.map a.eval).toArray:=sW;rw[F];exact .bj this.1 this.2
  .simp at W
 case makeMap t r=>
  unfold ns at W;split at W
  .simp only[bm]at W;obtain⟨rfl,rfl⟩:=W;exact mc ⟨.map (some w.heap.size),_,_,by simp[Instr.makeMap],.map (js _ _ _),z6 h⟩
  .simp at W
 case makeSlice t l c'=>
  unfold nt at W;split at W
  .rename_i lv cv hl hc;exact mc ((vF (Z l cB _ hl) (Z c' cB _ hc) W).sim h)
  .simp at W
 case slice t x lo I mx=>
  unfold nw at W;split at W
  .rename_i L l hh U hl hi';obtain⟨Y,rfl⟩:=eQ W;exact fe h (AF h (Z x cB _ U) (vQ (fun y S=>Z y (by simp[Op.operands]at *;simp[S])) hl) (vQ (fun y S=>Z y (by simp[Op.operands]at *;simp[S])) hi') Y)
  .simp at W
 case fieldAddr t x f=>
  unfold pw at W;split at W
  .rename_i L U;obtain⟨Y,rfl⟩:=eQ W;exact fe h (Aj (Z x cB _ U) Y)
  .simp at W
 case field t x f=>
  unfold px at W;split at W
  .rename_i L U;obtain⟨Y,rfl⟩:=eQ W;exact fe h (Ak (Z x cB _ U) Y)
  .simp at W
 case indexAddr t x i=>
  unfold py at W;split at W
  .rename_i L iv U I;obtain⟨Y,rfl⟩:=eQ W;exact fe h (Al (Z x cB _ U) (Z i cB _ I) Y)
  .simp at W
 case index t x i=>
  unfold pz at W;split at W
  .rename_i L iv U I;obtain⟨Y,rfl⟩:=eQ W;exact fe h (Am (Z x cB _ U) (Z i cB _ I) Y)
  .simp at W
 case lookup t m k ok=>
  unfold ny at W;split at W
  .rename_i mv kv hm hk;obtain⟨Y,rfl⟩:=eQ W;exact fe h (AP h (Z m cB _ hm) (Z k cB _ hk) Y)
  .simp at W
 case mapUpdate t m k v=>
  unfold pA at W;split at W
  .rename_i mv kv vv hm hk M;split at W
   .rename_i H1 A;simp only[bm]at W;obtain⟨rfl,rfl⟩:=W;exact vP (AS h (Z m cB _ hm) (Z k cB _ hk) (Z v cB _ M) A)
   .simp at W
  .simp at W
 case extract x i=>
  unfold pB at W;split at W
  .rename_i L U;obtain⟨Y,rfl⟩:=eQ W;exact fe h (An (Z x cB _ U) Y)
  .simp at W
def AZ(h:R B H w G){keep:Bool}{b:Builtin}{ts:Array TypeId}{ty:TypeId}{consts:qr}(M:bb G cs vs)(C:fQ P keep H b ts.toList cs=some (c,H')):
 kU P B H G w (builtin b ts ty consts vs.toArray) c H':=by
 unfold fQ at C;split at C
 .split at C
  .rename_i t u s x S;have U:ts=#[t,u]:=by apply fT;simpa using S
   subst U
   match vs,M with
   |[J,L],M=>
    obtain⟨m,o⟩:=M.aE;obtain⟨F,_⟩:=o.aE;exact mc (AJ h m F C)
   |[],M=>have:=M.1;simp at this
   |[_],M=>have:=M.1;simp at this
   |_::_::_::_,M=>have:=M.1;simp at this
  .simp at C
 .split at C
  .rename_i t x S;have U:ts=#[t]:=by apply fT;simpa using S
   subst U;split at C
   .rename_i v O;simp only[bm]at C;obtain⟨rfl,rfl⟩:=C
    match vs,M with
    |[L],M=>
     obtain⟨m,_⟩:=M.aE;exact fe h (AL h m O)
    |[],M=>have:=M.1;simp at this
    |_::_::_,M=>have:=M.1;simp at this
   .simp at C
  .simp at C
 .split at C
  .rename_i x I;split at C
   .rename_i v W;simp only[bm]at C;obtain⟨rfl,rfl⟩:=C
    match vs,M with
    |[],M=>have:=M.1;simp at this
    |L::xvs,M=>
     obtain⟨m,o⟩:=M.aE;have:=s0 (P:=P) (w:=w) m o W;exact fe h (by simpa [Builtin.max_]using this)
   .simp at C
  .simp at C
 .split at C
  .rename_i x I;split at C
   .rename_i v W;simp only[bm]at C;obtain⟨rfl,rfl⟩:=C
    match vs,M with
    |[],M=>have:=M.1;simp at this
    |L::xvs,M=>
     obtain⟨m,o⟩:=M.aE;have:=s0 (P:=P) (w:=w) m o W;exact fe h (by simpa [Builtin.min_]using this)
   .simp at C
  .simp at C
 .simp at C
end
def s7:AX->Exit
 | .normal=>.normal
 | .exit id=>.exit id
 | .ret=>.ret
def eR(B:Bs)(N V:Nat)(G:Gh)(w:World)(x:AX)(Z:ae)(H':Hp):Exit->Act->World->Prop:=fun e o I=>
 e=s7 x/\∃O,TR N O Z o/\Step B V G w H' I O/\o.defers=[]
structure Fit (P:Program):Prop where
 name:∀(f:FuncId) (fn:Func),P.funcs[f]?=some fn->fn.body.isSome=true->(fn.name == "runtime.NumGoroutine")=false
 mixed:P.follows .mixedOrders=true
structure Snd (P:Program) (B:Bs) (n:Nat) (ih:zad->Res):Prop where
 call:∀f args H r H',ih (.call f args H)=.val r H'->∀G w vs,R B H w G->bb G args vs ->
  (∃fn,P.funcs[f]?=some fn/\fn.body.isSome=true)/\Calls P f vs.toArray w (fun e w'=>∃v G',e=.returned v/\VR G' r v/\Step B H.next G w H' w' G')
 aj:∀f N c E H x E' H',ih (.aj f N c E H)=.done x E' H'->∀G w a,R B H w G->TR N G E a->a.defers=[]->Code.wp P c (eR B N H.next G w x E' H') a w
 loop:∀f N c E H x E' H',ih (.aj f N (.loop c) E H)=.done x E' H'->∀G w a,R B H w G->TR N G E a->a.defers=[]->Code.rounds P c (eR B N H.next G w x E' H') n a w
theorem s8{P:Program}{c:Code}{Q A:Exit->Act->World->Prop}(h:∀e a w,Q e a w->A e a w):∀{n:Nat}{a:Act}{w:World},Code.rounds P c Q n a w->Code.rounds P c A n a w
 |0,_,_,hr=>hr
 |n+1,_,_,hr=>by
  rw[rounds_succ]at *;exact j5 (fun e a w F=>by
   cases e with
   |normal=>exact s8 h F
   |_=>exact h _ _ _ F) hr
def eR.trans{B:Bs}{Z:Nat}{G O:Gh}{w:World}{H' m:Hp}{x:AX}{V:ae}(J:Step B Z G w H' w' O){e:Exit}{L:World}(h:eR B N H'.next O w' x V m e a L):eR B N Z G w x V m e a L:=by
 obtain⟨F,W,Y,o,U⟩:=h;exact⟨F,W,Y,J.trans o,U⟩
def pT:=@eR.trans
section
variable {P:Program} {B:Bs} {G:Gh} {H H':Hp} {w:World}
def s9(h:TR N G E a){x:Operand}(Z:ay E x=some c):VR G c (a.eval x):=by
 cases x with
 |tmp t=>simp only[ay,ak]at Z;subst Z;exact h.a3 t
 |const v=>exact l6 Z
 |global g=>simp[ay]at Z
 |func f=>simp only[ay,ak]at Z;subst Z;exact .bj (vs:=[]) rfl aK
def TR.dn(h:TR N G E a)(xs:Array Operand):kY G E a xs:=fun _ _ _ hc=>s9 h hc
theorem A0{d:Nat}(h:VR G (E.at d) (a.tmps.getD d undef)):(match E.at d with|.bool b=>some b |_=>none)=(match a.tmps[d]? with|some (.bool b)=>some b |_=>none):=by
 rw[dO]at h;cases hd:a.tmps[d]? with
 |none=>
  rw[hd]at h;simp only[Option.getD_none,undef]at h;generalize E.at d=c at h;cases h;rfl
 |some v=>
  rw[hd]at h;simp only[bQ]at h;generalize E.at d=c at h;cases h<;>rfl
theorem A1{j:Nat}(h:∀d,(ops[j]?).bind (·.dst)=some d->VR G (E.at d) (a.tmps.getD d undef)):pC ops.toList E j=yielded ops a.tmps j:=by
 unfold pC yielded;rw[nQ];cases hd:(ops[j]?).bind (·.dst)with
 |none=>rfl
 |some d=>exact A0 (h d hd)
theorem vR(h:∀j b d,o.guard=some (j,b)->(ops[j]?).bind (·.dst)=some d->VR G (E.at d) (a.tmps.getD d undef)):dJ ops.toList E o=Region.wanted o (yielded ops a.tmps):=by
 unfold dJ Region.wanted;cases L:o.guard with
 |none=>rfl
 |some p=>
  obtain⟨j,b⟩:=p;simp only[];rw[A1 (fun d hd=>h j b d L hd)];cases yielded ops a.tmps j with
  |none=>rfl
  |some b'=>cases b<;>cases b' <;>rfl
theorem pU(fit:Fit P)(hih:Snd P B n ih)(h:R B H w G)(hE:kY G E a o.op.operands)(W:b6 P B.cfg ih f E H o.op=.val c H')
 {K:Act->World->Prop}{Q:Exit->Act->World->Prop} (hK:∀v U S,VR S c v->Step B H.next G w H' U S->K (a.put o.dst v) U):o.wp P a w K Q:=by
 have A:∀s:Sem Next,kU P B H G w s c H'->execOp a.eval o=s->o.wp P a w K Q:=fun s hs he=>by
  obtain⟨m,U,S,v,h1,h2,h3,h4⟩:=hs;unfold Oper.wp;rw[he,h1];rcases h2 with rfl|⟨rfl,rfl⟩
  .exact hK v U S h3 h4
  .exact hK undef U S h3 h4
 unfold b6 at W;split at W
 .rename_i V O;unfold iF at W;split at W
  .rename_i g hg;split at W
   .rename_i k cap vs hgv L;have Y:kY G E a V.operands:=by rw[O]at hE;exact hE
    have hgr:=Y g (by simp[Call.operands,hg]) _ hgv;have I:=pS (G:=G) (a:=a) (fun x hx=>Y x (by simp[Call.operands,hg];exact .inr (by simpa using hx))) L;generalize hge:a.eval g=gv at hgr;cases hgr with
    |bj hl hv=>
     rename_i M;have hall:=I.append (G:=G) ⟨hl,hv⟩;obtain⟨⟨fn,hfn,J⟩,Z⟩:=hih.call _ _ _ _ _ W G w _ h hall;have C:=fit.name _ _ hfn J;unfold Oper.wp;have hrun:(execOp a.eval o).run P w=.ok (.enter k ((V.args.toList.map a.eval)++M).toArray) w:=by
      have F:V.args.map a.eval=(V.args.toList.map a.eval).toArray:=sW;unfold execOp;rw[O];simp only[cw,resolve,hg,hge,Deferred.ofValue,eA,cA,invoke,callFunc,run_program,hfn,C];simp only[bK,cT];have hb:fn.body.isNone=false:=by cases hb:fn.body<;>simp_all
      rw[hb];simp[F]
     rw[hrun];show Calls P k _ w _;refine Z.mono fun e U hr=>?_;obtain⟨v,S,rfl,h1,h2⟩:=hr;exact hK v U S h1 h2
   .simp at W
  .rename_i b hg;split at W
   .rename_i vs L;split at W
    .rename_i v H1 hb;simp only[Res.val.injEq]at W;obtain⟨rfl,rfl⟩:=W;have Y:kY G E a V.operands:=by rw[O]at hE;exact hE
     have I:=pS (G:=G) (a:=a) (fun x hx=>Y x (by simp[Call.operands,hg];simpa using hx)) L;have hs:=AZ (ty:=o.type) (consts:=V.args.map fun|.const _=>true |_=>false) h I hb;refine A _ hs ?_;have F:V.args.map a.eval=(V.args.toList.map a.eval).toArray:=sW;unfold execOp;rw[O];simp only[resolve,hg,F];rfl
    .simp at W
   .simp at W
  .simp at W
 .rename_i op hne;unfold cO at W;split at W
  .rename_i v H1 ho;simp only[Res.val.injEq]at W;obtain⟨rfl,rfl⟩:=W;exact A _ (AY h hE ho) rfl
  .simp at W
theorem ta(fit:Fit P){n:Nat}{ih:zad->Res}(Z:Snd P B n ih){f N:Nat}{ops:qv}:∀(l:qj) {E E':ae}{H:Hp}{x:AX}{a:Act}{w:World}{G:Gh}{Q:Exit->Act->World->Prop},eg P B.cfg ih f N ops.toList l E H=.done x E' H' ->
 R B H w G->TR N G E a->a.defers=[]->(∀e O Y,eR B N H.next G w x E' H' e O Y->Q e O Y)->wpList P ops Q l a w
 |[],E,E',H,x,a,w,G,Q,hr,h,ht,hd,hQ=>by
  simp only[eg,Res.done.injEq]at hr;obtain⟨rfl,rfl,rfl⟩:=hr;exact hQ _ _ _ ⟨rfl,G,ht,eh h,hd⟩
 |o::l,E,E',H,x,a,w,G,Q,hr,h,ht,hd,hQ=>by
  have J:∀E H,(List.rec (motive:=fun _=>ae->Hp->Res) (fun E H=>.done .normal E H)
   (fun o _ U E H=>match dJ ops.toList E o with
     |true=>match b6 P B.cfg ih f E H o.op with
      | .val v H=>ez U H (cF N E o.dst v)
      |_=>.aq
     |false=>ez U H (cF N E o.dst b5)) l E H:Res)=eg P B.cfg ih f N ops.toList l E H:=fun _ _=>rfl
  have I:eg P B.cfg ih f N ops.toList (o::l) E H=match dJ ops.toList E o with
   |true=>match b6 P B.cfg ih f E H o.op with
    | .val v H=>ez (eg P B.cfg ih f N ops.toList l) H (cF N E o.dst v)
    |_=>.aq
   |false=>ez (eg P B.cfg ih f N ops.toList l) H (cF N E o.dst b5):=rfl
  rw[I]at hr;have m:=vR (G:=G) (E:=E) (a:=a) (ops:=ops) (o:=o) (fun _ _ d _ _=>ht.a3 d);have L:∀S v,(a.put S v).defers=[]:=fun S v=>by cases S<;>exact hd
  cases M:dJ ops.toList E o with
  |true=>
   rw[M]at hr m;simp only[]at hr;split at hr
   .rename_i v H1 W;cases hp:cF N E o.dst v with
    |none=>rw[hp]at hr;simp[ez]at hr
    |some E1=>
     rw[hp]at hr;simp only[ez]at hr;unfold wpList;rw[aD m.symm];refine .inl (pU fit Z h (ht.dn _) W fun F Y A hv C=>?_);have V:TR N A E1 (a.put o.dst F):=(ht.mono C.ext).put hv hp;exact ta fit Z l hr C.r V (L _ _) (fun e a w he=>hQ _ _ _ (pT C he))
   .simp at hr
  |false=>
   rw[M]at hr m;simp only[]at hr;cases hp:cF N E o.dst b5 with
   |none=>rw[hp]at hr;simp[ez]at hr
   |some E1=>
    rw[hp]at hr;simp only[ez]at hr;unfold wpList;rw[aw (by rw[<-m];simp)];exact ta fit Z l hr h (ht.put (nK G) hp) (L _ _) hQ
end
section
variable {P:Program} {B:Bs} {G:Gh} {H H':Hp} {w:World} {cfg:Cfg}
theorem Sx.beq_eq:∀{a b:Sx},Sx.beq a b=true->a=b
 | .var i,b,h=>by
   cases b<;>simp only[Sx.beq,bK]at h;rw[dN h]
 | .lit i,b,h=>by
   cases b<;>simp only[Sx.beq,bK,gL]at h;rw[h]
 | .bJ o k x y,b,h=>by
   cases b<;>simp only[Sx.beq,bK,cI,dE]at h;obtain⟨⟨⟨rfl,rfl⟩,m⟩,Z⟩:=h;rw[Sx.beq_eq m,Sx.beq_eq Z]
 | .cB k x,b,h=>by
   cases b<;>simp only[Sx.beq,bK,cI,dE]at h;obtain⟨rfl,m⟩:=h;rw[Sx.beq_eq m]
mutual
theorem AV.beq_eq:∀{a b:AV},AV.beq a b=true->a=b
 | .int k a,b,h=>by
   cases b<;>simp only[AV.beq,cI,dE,gL,bK]at h;obtain⟨rfl,rfl⟩:=h;rfl
 | .sx k a,b,h=>by
   cases b<;>simp only[AV.beq,cI,dE,bK]at h;obtain⟨rfl,m⟩:=h;rw[Sx.beq_eq m]
 | .bool a,b,h=>by
   cases b<;>simp only[AV.beq,gL,bK]at h;subst h;rfl
 | .ad a,b,h=>by
   cases b<;>simp only[AV.beq,gL,bK]at h;subst h;rfl
 | .aY,b,h=>by cases b<;>simp only[AV.beq,bK]at h;rfl
 | .aO,b,h=>by cases b<;>simp only[AV.beq,bK]at h;rfl
 | .bh,b,h=>by cases b<;>simp only[AV.beq,bK]at h;rfl
 | .ab,b,h=>by cases b<;>simp only[AV.beq,bK]at h;rfl
 | .ptr r o,b,h=>by
   cases b<;>simp only[AV.beq,cI,bK]at h;obtain⟨m,Z⟩:=h;rw[dN m,dN Z]
 | .aN a,b,h=>by
   cases b<;>simp only[AV.beq,bK]at h;rw[ig h]
 | .sl r o l z,b,h=>by
   cases b<;>simp only[AV.beq,cI,bK]at h;obtain⟨⟨⟨m,Z⟩,F⟩,Y⟩:=h;rw[dN m,dN Z,dN F,dN Y]
 | .af a,b,h=>by
   cases b<;>simp only[AV.beq,bK]at h;rw[vS h]
 | .map r,b,h=>by
   cases b<;>simp only[AV.beq,bK]at h;rw[dN h]
 | .bj f a,b,h=>by
   cases b<;>simp only[AV.beq,cI,bK]at h;rw[dN h.1,ig h.2]
 | .agg a,b,h=>by
   cases b<;>simp only[AV.beq,bK]at h;rw[ig h]
 | .aC a,b,h=>by
   cases b<;>simp only[AV.beq,bK]at h;rw[ig h]
theorem ig:∀{a b:qh},eZ a b=true->a=b
 |[],b,h=>by cases b<;>simp only[eZ,bK]at h;rfl
 |a::x,b,h=>by
  cases b<;>simp only[eZ,cI,bK]at h;rw[AV.beq_eq h.1,ig h.2]
theorem vS:∀{a b:List qh},kG a b=true->a=b
 |[],b,h=>by cases b<;>simp only[kG,bK]at h;rfl
 |a::x,b,h=>by
  cases b<;>simp only[kG,cI,bK]at h;rw[ig h.1,vS h.2]
end
theorem vT{W β:Type}:∀{a b:List (W×β)},a.map (·.1)=b.map (·.1)->a.map (·.2)=b.map (·.2)->a=b
 |[],b,h,_=>by cases b<;>simp at h;rfl
 |(x,y)::a,b,h,U=>by
  cases b with
  |nil=>simp at h
  |cons c b=>
   obtain⟨u,v⟩:=c;simp only[mb,nR]at h U;obtain⟨rfl,h⟩:=h;obtain⟨rfl,U⟩:=U;rw[vT h U]
def HB.beq_eq{a b:HB}(h:HB.beq a b=true):a=b:=by
 cases a<;>cases b<;>simp only[HB.beq,cI,bK,gL]at h
 .obtain⟨⟨m,o⟩,F⟩:=h;rw[ig m,dN o,F]
 .rw[vT (ig h.1) (ig h.2)]
def gt(P:Program)(cfg:Cfg)(ih:zad->Res)(f N:Nat)(Y:qj):List Rec->qj->ae->Hp->ae->Hp->Prop
 |[],[],E,H,E',H'=>E=E'/\H=H'
 |r::rs,o::l,E,H,E',H'=>r.o=o/\r.E=E/\r.H=H/\dJ Y E o=r.did/\(r.did=true->b6 P cfg ih f E H o.op=.val r.val r.H')/\(r.did=false->r.val=b5/\r.H'=H) /\
  ∃E1,cF N E o.dst r.val=some E1/\gt P cfg ih f N Y rs l E1 r.H' E' H'
 |_,_,_,_,_,_=>False
theorem nV{ih:zad->Res}{f N:Nat}{Y:qj}:∀{l:qj}{E E':ae}{H H':Hp}{rs:List Rec},dK P cfg ih f N Y l E H=.done E' H' rs->gt P cfg ih f N Y rs l E H E' H'
 |[],E,E',H,H',rs,h=>by
  simp only[dK,zah.done.injEq]at h;obtain⟨rfl,rfl,rfl⟩:=h;exact⟨rfl,rfl⟩
 |o::l,E,E',H,H',rs,h=>by
  simp only[dK]at h;cases m:dJ Y E o with
  |true=>
   rw[m]at h;simp only[]at h;cases W:b6 P cfg ih f E H o.op with
   |val v H1=>
    rw[W]at h;simp only[]at h;cases hp:cF N E o.dst v with
    |none=>rw[hp]at h;simp[gH,gG]at h
    |some E1=>
     rw[hp]at h;simp only[gH]at h;cases hr:dK P cfg ih f N Y l E1 H1 with
     |aq=>rw[hr]at h;simp[gG]at h
     |done I V O=>
      rw[hr]at h;simp only[gG,zah.done.injEq]at h;obtain⟨rfl,rfl,rfl⟩:=h;exact⟨rfl,rfl,rfl,m,fun _=>W,aK,E1,hp,nV hr⟩
   |done _ _ _=>rw[W]at h;simp at h
   |aq=>rw[W]at h;simp at h
  |false=>
   rw[m]at h;simp only[]at h;cases hp:cF N E o.dst b5 with
   |none=>rw[hp]at h;simp[gH,gG]at h
   |some E1=>
    rw[hp]at h;simp only[gH]at h;cases hr:dK P cfg ih f N Y l E1 H with
    |aq=>rw[hr]at h;simp[gG]at h
    |done I V O=>
     rw[hr]at h;simp only[gG,zah.done.injEq]at h;obtain⟨rfl,rfl,rfl⟩:=h;exact⟨rfl,rfl,rfl,m,aK,fun _=>⟨rfl,rfl⟩,E1,hp,nV hr⟩
def cR(rs:List Rec)(o:ae)(e:Nat):ae:=match rs[e]? with
 |some r=>r.E
 |none=>o
theorem tc{ih:zad->Res}{f N:Nat}{Y:qj}:∀{rs:List Rec}{l:qj}{E E':ae}{H H':Hp},gt P cfg ih f N Y rs l E H E' H'->rs.length=l.length
 |[],[],_,_,_,_,_=>rfl
 |[],_::_,_,_,_,_,h=>by simp[gt]at h
 |_::_,[],_,_,_,_,h=>by simp[gt]at h
 |r::rs,o::l,E,E',H,H',h=>by
  obtain⟨_,_,_,_,_,_,E1,_,h⟩:=h;simp[tc h]
def td{f:Nat}{Y:qj}{rs:List Rec}{l:qj}{Z:ae}{H H':Hp}(h:gt P cfg ih f N Y rs l E H Z H'):cR rs Z 0=E/\a7 rs H' 0=H:=by
 cases rs with
 |nil=>
  cases l with
  |nil=>obtain⟨rfl,rfl⟩:=h;exact⟨rfl,rfl⟩
  |cons o l=>simp[gt]at h
 |cons r rs=>
  cases l with
  |nil=>simp[gt]at h
  |cons o l=>
   obtain⟨_,m,W,_⟩:=h;exact⟨by simp[cR,m],by simp[a7,W]⟩
structure AtD (P:Program) (cfg:Cfg) (ih:zad->Res) (f N:Nat) (all:qj) (o:Oper) (r:Rec) (E E1:ae) (H H1:Hp):Prop where
 eo:r.o=o
 eE:r.E=E
 eH:r.H=H
 dI:dJ all E o=r.did
 dg:r.did=true->b6 P cfg ih f E H o.op=.val r.val H1
 no:r.did=false->r.val=b5/\H1=H
 put:cF N E o.dst r.val=some E1
 eH':r.H'=H1
theorem kZ{ih:zad->Res}{f N:Nat}{Y:qj}:∀{rs:List Rec}{l:qj}{E E':ae}{H H':Hp},gt P cfg ih f N Y rs l E H E' H'->∀{i:Nat}{r:Rec},rs[i]?=some r ->
 ∃o,l[i]?=some o/\AtD P cfg ih f N Y o r (cR rs E' i) (cR rs E' (i+1)) (a7 rs H' i) (a7 rs H' (i+1))
 |[],_,_,_,_,_,_,i,r,hr=>by simp at hr
 |r::rs,[],_,_,_,_,h,_,_,_=>by simp[gt]at h
 |r::rs,o::l,E,E',H,H',h,i,r',hr=>by
  obtain⟨m,Z,F,V,U,O,E1,L,J⟩:=h;obtain⟨M,I⟩:=td J;cases i with
  |zero=>
   simp at hr;subst hr;have A:cR (r::rs) E' 1=E1:=by rw[<-M];simp[cR]
   have W:a7 (r::rs) H' 1=r.H':=by rw[<-I];simp[a7]
   have e3:cR (r::rs) E' 0=E:=by simp[cR,Z]
   have e4:a7 (r::rs) H' 0=H:=by simp[a7,F]
   refine⟨o,rfl,?_⟩;rw[A,W,e3,e4];exact⟨m,Z,F,V,U,fun S=>⟨(O S).1,(O S).2⟩,L,rfl⟩
  |succ i=>
   obtain⟨C,g1,g2⟩:=kZ J (i:=i) (r:=r') (by simpa using hr);have A:∀k,cR (r::rs) E' (k+1)=cR rs E' k:=fun k=>by simp[cR]
   have W:∀k,a7 (r::rs) H' (k+1)=a7 rs H' k:=fun k=>by simp[a7]
   refine⟨C,by simpa using g1,?_⟩;rw[A,A,W,W];exact g2
def jt(op:Op):Bool:=match cS op with|.calm=>true |_=>false
def iL(op:Op):Bool:=match cS op with|.read=>true |_=>false
def A2{op:Op}(A:jt op=true):∃u,∀X,bE P D E X op=ret X u:=by
 cases op<;>simp only[jt,cS,bK]at A<;>simp only[bE]
 case move x=>exact⟨_,fun X=>rfl⟩
 case assign x=>exact⟨_,fun X=>rfl⟩
 case pick c a b=>
  unfold pm;cases ay E c with
  |none=>exact⟨none,fun X=>rfl⟩
  |some v=>cases v with
   |bool t=>cases t<;>exact⟨_,fun X=>rfl⟩
   |_=>exact⟨none,fun X=>rfl⟩
 case build t parts=>
  unfold pn;cases eL E parts.toList with
  |none=>exact⟨none,fun X=>rfl⟩
  |some W=>exact⟨_,fun X=>rfl⟩
 case nilCheck x=>
  unfold pp;cases ay E x with
  |none=>exact⟨none,fun X=>rfl⟩
  |some v=>cases v with
   |ptr r o=>exact⟨some (.ptr r o),fun X=>rfl⟩
   |aN cs=>exact⟨some (.aN cs),fun X=>rfl⟩
   |_=>exact⟨none,fun X=>rfl⟩
 case binOp op t x y yt=>
  unfold pq;cases ay E x with
  |none=>exact⟨none,fun X=>rfl⟩
  |some v=>cases ay E y with
   |none=>exact⟨none,fun X=>rfl⟩
   |some u=>exact⟨_,fun X=>rfl⟩
 case unOp op t x=>
  unfold pr;cases ay E x with
  |none=>exact⟨none,fun X=>rfl⟩
  |some v=>exact⟨_,fun X=>rfl⟩
 case makeFunc fn first captured=>
  unfold pu;cases fn with
  |func f=>
   cases first.toList with
   |nil=>cases cN E captured.toList with
    |none=>exact⟨none,fun X=>rfl⟩
    |some vs=>exact⟨some (.bj f vs),fun X=>rfl⟩
   |cons _ _=>exact⟨none,fun X=>rfl⟩
  |_=>exact⟨none,fun X=>rfl⟩
 case fieldAddr t x f=>
  unfold pw;cases ay E x with
  |none=>exact⟨none,fun X=>rfl⟩
  |some v=>exact⟨_,fun X=>rfl⟩
 case field t x f=>
  unfold px;cases ay E x with
  |none=>exact⟨none,fun X=>rfl⟩
  |some v=>exact⟨_,fun X=>rfl⟩
 case indexAddr t x i=>
  unfold py;cases ay E x with
  |none=>exact⟨none,fun X=>rfl⟩
  |some v=>cases ay E i with
   |none=>exact⟨none,fun X=>rfl⟩
   |some u=>exact⟨_,fun X=>rfl⟩
 case index t x i=>
  unfold pz;cases ay E x with
  |none=>exact⟨none,fun X=>rfl⟩
  |some v=>cases ay E i with
   |none=>exact⟨none,fun X=>rfl⟩
   |some u=>exact⟨_,fun X=>rfl⟩
 case extract x i=>
  unfold pB;cases ay E x with
  |none=>exact⟨none,fun X=>rfl⟩
  |some v=>exact⟨_,fun X=>rfl⟩
 all_goals exact⟨none,fun X=>rfl⟩
def te{op:Op}(A:jt op=true)(h:bE P D E H op=some (v,H')):H'=H/\∀X,bE P D E X op=some (v,X):=by
 obtain⟨u,m⟩:=A2 (P:=P) (D:=D) (E:=E) A;rw[m]at h;obtain⟨rfl,rfl⟩:=eQ h;exact⟨rfl,fun X=>by rw[m];rfl⟩
def tf{op:Op}(A:iL op=true)(h:b6 P cfg ih f E H op=.val v H'):H'=H:=by
 cases op<;>simp only[iL,cS,bK]at A<;>simp only[b6,bE]at h
 case load t x=>
  unfold nq at h;split at h
  .cases U:dq P H t ‹AV› <;>rw[U]at h<;>simp[ret,cO]at h;exact h.2.symm
  .simp[cO]at h
 case slice t x lo hi mx=>
  unfold nw at h;split at h
  .rename_i L Z M _ _ _;cases U:gD P H t L Z M<;>rw[U]at h<;>simp[ret,cO]at h;exact h.2.symm
  .simp[cO]at h
 case convert s d x=>
  unfold nr at h;split at h
  .cases U:gk P H s d ‹AV› <;>rw[U]at h<;>simp[ret,cO]at h;exact h.2.symm
  .simp[cO]at h
 case lookup t m k ok=>
  unfold ny at h;split at h
  .rename_i mv F _ _;cases U:di P H t mv F ok<;>rw[U]at h<;>simp[ret,cO]at h;exact h.2.symm
  .simp[cO]at h
 case call c=>
  unfold iF at h;cases hc:c.callee with
  |value g=>rw[hc]at A;simp at A
  |invoke g m=>rw[hc]at A;simp at A
  |builtin b=>
   rw[hc]at A h;simp only[]at h;split at h
   .rename_i vs _;cases b<;>simp only[bK]at A<;>simp only[fQ]at h;all_goals
     split at h
     .rename_i Y H1 C;simp only[Res.val.injEq]at h;obtain⟨rfl,rfl⟩:=h;split at C
      .split at C
       .simp only[bm]at C;exact C.2.symm
       .simp at C
      .simp at C
     .simp at h
   .simp at h
def A3(A:jV o=true)(h:bE P D E H o.op=some (v,H')):∃I,H'=H.alloc I:=by
 obtain⟨S,W,Z,U,V,guard⟩:=o;simp only[]at h;cases W<;>simp only[jV,cS,bK]at A<;>simp only[bE,reduceCtorEq]at h
 case alloc t=>
  unfold nk at h;split at h
  .simp only[bm]at h;exact⟨_,h.2.symm⟩
  .simp at h
 case box t x=>
  unfold nl at h;split at h
  .simp only[bm]at h;exact⟨_,h.2.symm⟩
  .simp at h
 case buildSlice t len parts=>
  unfold np at h;split at h
  .unfold eu at h;(repeat' split at h)<;>first|(simp only[bm]at h;exact⟨_,h.2.symm⟩)|simp at h
  .simp at h
 case makeMap t r=>
  unfold ns at h;split at h
  .simp only[bm]at h;exact⟨_,h.2.symm⟩
  .simp at h
 case makeSlice t l c=>
  unfold nt at h;split at h
  .unfold iE at h;(repeat' split at h)<;>first|(simp only[bm]at h;exact⟨_,h.2.symm⟩)|simp at h
  .simp at h
def k0{op:Op}(S:∀c,op≠.call c):b6 P cfg ih f E H op=.val v H'↔bE P cfg.bC E H op=some (v,H'):=by
 have:b6 P cfg ih f E H op=cO (bE P cfg.bC E H op):=by
  unfold b6;split
  .exact(S _ rfl).elim
  .rfl
 rw[this];cases bE P cfg.bC E H op with
 |none=>simp[cO]
 |some p=>obtain⟨a,b⟩:=p;simp[cO]
def A4(A:fR o=false)(h:b6 P cfg ih f E H o.op=.val v H'):H'=H\/∃I,H'=H.alloc I:=by
 cases J:cS o.op with
 |ck=>simp[fR,J]at A
 |read=>exact .inl (tf (by simp[iL,J]) h)
 |calm=>
  have S:∀c,o.op≠.call c:=fun c e=>by
   rw[e]at J;simp only[cS]at J;split at J<;>simp at J
  exact .inl (te (P:=P) (by simp[jt,J]) ((k0 S).1 h)).1
 |make=>
  have S:∀c,o.op≠.call c:=fun c e=>by
   rw[e]at J;simp only[cS]at J;split at J<;>simp at J
  exact .inr (A3 (by simp[jV,J]) ((k0 S).1 h))
end
end Go.Ab
