/- Lemmas for the last file. -/
import Derived.Test.YtpbcimfiofmoeaaGreatWER
set_option linter.all false
set_option maxHeartbeats 32000000
namespace Go.Ab
set_option maxRecDepth 20000
open Go
variable{qe:Prop}
def nH(h:qe:=by rw[e]at j;omega):=h
def FR(h:qe:=by rw[hS k m ac ac];exact j):=h
def TO(h:qe:=by show(if _ then _ else _)=0;rw[if_neg ac];exact h.gg q U):=h
def TP(h:qe:=by show(if _ then _ else _)=2;rw[if_neg ac];exact lf):=h
def Kr(h:qe:=by show(if _ then _ else _)=b+1;rw[if_neg ac];exact j):=h
def Ks(h:qe:=by show(if _ then _ else _)=b+2;rw[if_neg ac];exact j):=h
def Kt(h:qe:=by show(if _ then _ else _)=b+3;rw[if_neg ac];exact j):=h
def Ku(h:qe:=by show(if _ then _ else _)=b;rw[if_neg ac];exact j):=h
end Go.Ab
namespace Go.Proofs.YtpbcimfiofmoeaaGreat
set_option maxRecDepth 20000
open Go Go.Ab
variable{P:Program}{t e:TypeId}{z b q m k n L n':Nat}{H H':Hp}{v p l M:AV}{S:Nat->Prop}{Z:Nat->Nat}{f:Fu}
theorem FnL.a9{Z:Nat->Nat}{b n:Nat}{H:Hp}{f:Fu}{p l M:AV}{v:qu}(h:FnL Z b n H f p l M v)(nm:qA):(gM nm p l M v).length=9:=by
 show([_,_,_,_]++v).length=9;rw[iR,h.len];rfl
theorem zgc{Y:qu}(j:P.underlying t=some (.slice e))(M:bL P e=some z)(hb:dF P e=some b)(J:cQ P e=some Y)(Z:Y.length=z)(V:gN P t=true)
 {cs row:qu} (hg:H.get q=some (.cells cs 0 true)) (hl:cs.length=m*z) (hx:fk H z v=some (k+1,row)) (U:row.all AV.one=true) (I:(m+(k+1))*b<=ee) (C:m+(k+1)<=ee) :
 cD P false H t t (.sl q 0 m z) v=some (.sl H.next 0 (m+(k+1)) z,(H.a0 q).alloc (.cells (cs++row) 0 true)):=by
 have O:gY false H z (.sl q 0 m z)=H:=by
  unfold gY;simp only[hg,bR];have:Nat.blt (m*z) cs.length=false:=by
   cases hb:Nat.blt (m*z) cs.length with
   |false=>rfl
   |true=>rw[sI]at hb;omega
  simp only[ll,ja,this,mB]
 simp only[cD,j,M,hb,J,V,hx,U,O,Z,nV,ft,nL,hg,bR,hY,dM,fG];rw[ai ⟨I,C,ac,trivial,ac⟩]
theorem xD:∀a b:qD,bi (a++b)=bi a+bi b
 |[],b=>by rw[lL,bi];omega
 |x::a,b=>by rw[lw,bi,bi,xD a b];omega
def cU.at{ws:List qu}(h:cU S n H z v ws){o C:Nat}(e:v=.sl k o m C):S k/\k<H.next:=by
 rcases h with⟨rfl,_⟩|⟨q,Z,rows,rfl,Y,j,_⟩
 .cases e
 .simp only[AV.sl.injEq]at e;obtain⟨rfl,_⟩:=e;exact⟨Y,j⟩
def BS{zz:qu}(ht:P.underlying t=some (.slice e))(hs:bL P e=some z)(hb:dF P e=some b)(hz:cQ P e=some zz)(hzz:zz.length=z)(C:gN P t=true)
 {O:Nat->Nat}{Hb:Hp}{ws:List qu} (h:cU (fun q=>O q=L) n H z v ws) (hn:H.next<=Hb.next) (hk:∀q,q<H.next->O q=L->Hb.get q=H.get q) {r imm:Nat}{row:qu} (hg:Hb.get r=some (.cells row imm true)) (hrow:row.length=z) (hone:row.all AV.one=true)
 (hb1:(ws.length+1)*b<=ee) (hb2:ws.length+1<=ee) :
 ∃H' V U,cD P false Hb t t v (.sl r 0 1 z)=some (.sl Hb.next 0 (ws.length+1) z,H')/\V.length=ws.length*z/\U<=ws.length*z/\H'.get Hb.next=some (.cells (V++row) U true)/\H'.next=Hb.next+1/\(∀q,q<Hb.next->(H.next<=q\/O q≠L)->H'.get q=Hb.get q) /\
  ∀(Y:Hp) (rf:Nat) (Z w:qu),Hb.next<Y.next->(∀q,q≠rf->q<Hb.next->Y.get q=H'.get q)->O rf≠L->rf<H.next->Y.get Hb.next=some (.cells (V++Z) U true)->Z.length=z->b9 (fun q=>H.next<=q/\q<Hb.next) n Hb Z w ->
   cU (fun q=>(if H.next<=q then L else O q)=L) n Y z (.sl Hb.next 0 (ws.length+1) z) (ws++[w]):=by
 have h':cU (fun q=>q<H.next/\O q=L) n Hb z v ws:=h.keep (fun k M j=>⟨M,j⟩) hn fun k M j=>hk k j M;obtain⟨H',rows,U,a1,a2,a3,a4,a5,a6,a7,a8⟩:=Qe ht hs hb hz hzz C (S':=fun q=>(if H.next<=q then L else O q)=L) h' (fun k _ hS=>by show(if _ then _ else _)=L;rw[af ac];exact hS.2) (by show(if _ then _ else _)=L;rw[ai hn]) hg hrow hone hb1 hb2;have fr:∀q,q<Hb.next->(H.next<=q\/O q≠L)->H'.get q=Hb.get q:=fun q M j=>a7 q M fun o m z' e=>by
  have h3:=(h'.at e).1;rcases j with j|j
  .omega
  .exact j h3.2
 have hfl:rows.flatten.length=ws.length*z:=by rw[w5 a3,a2]
 refine⟨H',rows.flatten,U,a1,hfl,by rw[<-hfl];exact a5,a4,a6,fr,fun Y rf Z w M j h3 h4 h5 h6 hw=>?_⟩;have ne:∀k,(if H.next<=k then L else O k)=L->k≠rf:=fun k J e=>by
  subst e;rw[af ac]at J;exact h3 J
 refine cU.of (S:=fun q=>(if H.next<=q then L else O q)=L) (ai hn) M a3 h6 h5 a5 (a8.aO (fun k _ I=>I) ac fun k J I=>j k (ne k J.1) (by have:=J.2;omega)) ?_;exact hw.aO (fun k J I=>⟨ai I.1,ac⟩) ac fun k J I=>by rw[j k ac I,fr k I (.inl J.1)]
def rr(i:Nat)(a b:qu):qu:=match i with
 |0=>a++b
 |_+1=>b++a
def ir(i:Nat)(x y:Int)(f g:Fu):Pr:=match i with
 |0=>tp x y f g
 |_+1=>tp x y g f
def FnL.mv{pt':Nat->Nat}{V:AV}{v:qu}(h:FnL Z b n H f p l V v)(M:n<=n')(hS:∀q,q<H.next->b<=Z q->Z q<b+4->pt' q=Z q)(J:H.next<=H'.next)(Y:∀q,q<H.next->b<=Z q->Z q<b+4->H'.get q=H.get q):FnL pt' b n' H' f p l V v:=
 ⟨h.len,h.one,(h.ps.keep (fun k m j=>FR) J fun k m j=>Y k j ac ac).up M,
  (h.ls.keep (fun k m j=>FR) J fun k m j=>Y k j ac ac).up M,
  (h.bo.keep (fun k m j=>FR) J fun k m j=>Y k j ac ac).up M,
  (h.vw.aO (fun k m j=>FR) J fun k m j=>Y k j ac ac).up M⟩
structure zd3 (i:Nat) (pt:Nat->Nat) (lo b b' n:Nat) (H:Hp) (ra rf:Nat) (x y:Int) (f g:Fu) (pf lf bf:AV) (vf:qu) (pg lg bg:AV) (vg:qu):Prop where
 hb:3<=b/\3<=b'/\(b+4<=b'\/b'+4<=b)
 dm:lo<=H.next
 gg:∀q,q<lo->pt q=0
 ga:H.get ra=some (.cells [.aj [97],.int .i64 x,.aj [98],.int .i64 y] 0 true)
 gf:H.get rf=some (.cells (rr i (gM f.name pf lf bf vf) (gM g.name pg lg bg vg)) 0 true)
 dc:ra<H.next
 cw:rf<H.next
 cI:pt ra=1
 bP:pt rf=2
 F:FnL pt b n H f pf lf bf vf
 G:FnL pt b' n H g pg lg bg vg
def zio.toX{lo:Nat}{Y V:Nat}{x y:Int}{g:Fu}{z C bf:AV}{U:qu}{J O:AV}{m:qu}(h:zio Z n H Y V x y f g z C bf U J M O m)(I:lo<=H.next)(j:∀q,q<lo->Z q=0):
 zd3 0 Z lo 3 7 n H Y V x y f g z C bf U J M O m/\zd3 1 Z lo 7 3 n H Y V x y g f J M O m z C bf U:=
 ⟨⟨ac,I,j,h.ga,h.gf,h.dc,h.cw,h.cI,h.bP,h.F,h.G⟩,⟨ac,I,j,h.ga,h.gf,h.dc,h.cw,h.cI,h.bP,h.G,h.F⟩⟩
section
variable {i:Nat} {pt:Nat -> Nat} {lo b b' n:Nat} {H:Hp} {ra rf:Nat} {x y:Int} {f g:Fu} {pf lf bf:AV} {vf:qu} {pg lg bg:AV} {vg:qu} (h:zd3 i pt lo b b' n H ra rf x y f g pf lf bf vf pg lg bg vg)
include h
def zd3.aK(h1:pt q≠0):lo<=q:=by
 by_cases j:q<lo
 .exact absurd (h.gg q j) h1
 .omega
def zd3.ne:ra≠rf:=fun e=>by
 have m:=h.cI;have j:=h.bP;rw[e]at m;omega
def zd3.fB{f':Fu}{m z bf':AV}{vf':qu}(hL:b<=L/\L<b+4)(J:H.next<=H'.next)(M:n<=n')(Z:∀q,lo<=q->q<H.next->q≠rf->pt q≠L->H'.get q=H.get q)(Y:H'.get rf=some (.cells (rr i (gM f'.name m z bf' vf') (gM g.name pg lg bg vg)) 0 true))
 (F:FnL (fun q=>if H.next<=q then L else pt q) b n' H' f' m z bf' vf'):zd3 i (fun q=>if H.next<=q then L else pt q) lo b b' n' H' ra rf x y f' g m z bf' vf' pg lg bg vg:=by
 obtain⟨b1,b2,b3⟩:=h.hb;have C:=h.dc;have h2:=h.cw;have h3:=h.dm;have j:=h.cI;have lf:=h.bP;refine⟨h.hb,ac,fun q U=>TO,?_,Y,ac,ac,by show(if _ then _ else _)=1;rw[af ac];exact j,TP,F,?_⟩
 .rw[Z ra (h.aK ac) C h.ne ac];exact h.ga
 .exact h.G.mv M (fun q V _ _=>af ac) J fun q V O I=>Z q (h.aK ac) V (fun e=>by rw[e]at O I;omega) ac
def zd3.f8{m:AV}(ps:qx)(J:H.next<=H'.next)(M:n<=n')(z:∀q,lo<=q->q<H.next->q≠rf->pt q≠b->H'.get q=H.get q)(Y:H'.get rf=some (.cells (rr i (gM f.name m lf bf vf) (gM g.name pg lg bg vg)) 0 true))
 (hr:cU (fun q=>(if H.next<=q then b else pt q)=b) n' H' 1 m (ps.map fun s=>[AV.aj s])):zd3 i (fun q=>if H.next<=q then b else pt q) lo b b' n' H' ra rf x y {f with params:=ps} g m lf bf vf pg lg bg vg:=by
 have hb:=h.hb;have V:=h.bP;have I:∀q,q<H.next->b<=pt q->pt q≠b->H'.get q=H.get q:=fun q Z j C=>z q (h.aK ac) Z (fun e=>nH) C
 refine h.fB ⟨ac,ac⟩ J M z Y ⟨h.F.len,h.F.one,hr,(h.F.ls.keep (fun k Z j=>Kr) J fun k Z j=>I k j ac ac).up M,(h.F.bo.keep (fun k Z j=>Ks) J fun k Z j=>I k j ac ac).up M,(h.F.vw.aO (fun k Z j=>Kt) J fun k Z j=>I k j ac ac).up M⟩
def zd3.f9{z:AV}(O:qx)(J:H.next<=H'.next)(M:n<=n')(Z:∀q,lo<=q->q<H.next->q≠rf->pt q≠b+1->H'.get q=H.get q)(Y:H'.get rf=some (.cells (rr i (gM f.name pf z bf vf) (gM g.name pg lg bg vg)) 0 true))
 (hr:cU (fun q=>(if H.next<=q then b+1 else pt q)=b+1) n' H' 1 z (O.map fun s=>[AV.aj s])):zd3 i (fun q=>if H.next<=q then b+1 else pt q) lo b b' n' H' ra rf x y {f with ak:=O} g pf z bf vf pg lg bg vg:=by
 have hb:=h.hb;have V:=h.bP;have I:∀q,q<H.next->b<=pt q->pt q≠b+1->H'.get q=H.get q:=fun q m j C=>Z q (h.aK ac) m (fun e=>nH) C
 refine h.fB ⟨ac,ac⟩ J M Z Y ⟨h.F.len,h.F.one,(h.F.ps.keep (fun k m j=>Ku) J fun k m j=>I k j ac ac).up M,hr,(h.F.bo.keep (fun k m j=>Ks) J fun k m j=>I k j ac ac).up M,(h.F.vw.aO (fun k m j=>Kt) J fun k m j=>I k j ac ac).up M⟩
def zd3.fq{bf':AV}(bs:qD)(J:H.next<=H'.next)(M:n<=n')(z:∀q,lo<=q->q<H.next->q≠rf->pt q≠b+2->H'.get q=H.get q)(Z:H'.get rf=some (.cells (rr i (gM f.name pf lf bf' vf) (gM g.name pg lg bg vg)) 0 true))
 (hr:cU (fun q=>(if H.next<=q then b+2 else pt q)=b+2) n' H' 17 bf' (bs.map St.cells)):zd3 i (fun q=>if H.next<=q then b+2 else pt q) lo b b' n' H' ra rf x y {f with body:=bs} g pf lf bf' vf pg lg bg vg:=by
 have hb:=h.hb;have V:=h.bP;have I:∀q,q<H.next->b<=pt q->pt q≠b+2->H'.get q=H.get q:=fun q m j C=>z q (h.aK ac) m (fun e=>nH) C
 refine h.fB ⟨ac,ac⟩ J M z Z ⟨h.F.len,h.F.one,(h.F.ps.keep (fun k m j=>Ku) J fun k m j=>I k j ac ac).up M,(h.F.ls.keep (fun k m j=>Kr) J fun k m j=>I k j ac ac).up M,hr,(h.F.vw.aO (fun k m j=>Kt) J fun k m j=>I k j ac ac).up M⟩
def zd3.fu{x' y':Int}{nf:qA}(J:H.next<=H'.next)(z:∀q,lo<=q->q<H.next->q≠ra->q≠rf->H'.get q=H.get q)(M:H'.get ra=some (.cells [.aj [97],.int .i64 x',.aj [98],.int .i64 y'] 0 true))(Z:H'.get rf=some (.cells (rr i (gM nf pf lf bf vf) (gM g.name pg lg bg vg)) 0 true)):
 zd3 i pt lo b b' n H' ra rf x' y' {f with name:=nf} g pf lf bf vf pg lg bg vg:=by
 have Y:=h.cI;have V:=h.bP;have hb:=h.hb;have m:=h.dc;have j:=h.cw;have C:=h.dm;have O:=h.F.mv (pt':=pt) (H':=H') (ay n) (fun _ _ _ _=>rfl) J fun q m j C=>z q (h.aK ac) m (fun e=>nH) (fun e=>nH);have hG:=h.G.mv (pt':=pt) (H':=H') (ay n) (fun _ _ _ _=>rfl) J fun q m j C=>z q (h.aK ac) m (fun e=>nH) (fun e=>nH);exact⟨h.hb,ac,h.gg,M,Z,ac,ac,Y,V,⟨O.len,O.one,O.ps,O.ls,O.bo,O.vw⟩,hG⟩
omit h in
theorem FnL.row{b n:Nat}{H:Hp}{f:Fu}{v:qu}(h:FnL Z b n H f p l M v)(hS:∀q,q<H.next->b<=Z q->Z q<b+4->S q):b9 S (n+1) H (gM f.name p l M v) f.cells:=
 FO f.name rfl (h.ps.rd.aO (fun k m j=>hS k m ac ac) (ay _) fun _ _ _=>rfl) (h.ls.rd.aO (fun k m j=>hS k m ac ac) (ay _) fun _ _ _=>rfl) (h.bo.rd.aO (fun k m j=>hS k m ac ac) (ay _) fun _ _ _=>rfl) ((h.vw.up (cG _)).aO (fun k m j=>hS k m ac ac) (ay _) fun _ _ _=>rfl)
end
def TQ(E:aq):aT E (.const (.agg #[.int .i64 0,.string ⟨#[]⟩,.string ⟨#[]⟩,.int .i64 0,.int .i64 0,.int .i64 0,.string ⟨#[]⟩,.int .i64 0,.slice none 0 0,.int .i64 0,.int .i64 0,.string ⟨#[]⟩,.int .i64 0,.slice none 0 0,.slice none 0 0,.slice none 0 0,.slice none 0 0]))=some (.agg [.int .i64 0,.aj [],.aj [],.int .i64 0,.int .i64 0,.int .i64 0,.aj [],.int .i64 0,.ag,.int .i64 0,.int .i64 0,.aj [],.int .i64 0,.ag,.ag,.ag,.ag]):=ax
def zgd(H:Hp)(a b c d e:AV):de Tryz.prog H 61 1 [(0,.agg [a,b,c,d,e])]=some (.sl H.next 0 1 5,H.alloc (.cells [a,b,c,d,e] 0 true)):=ax
def zge(q:Nat)(o:Int):dd Tryz.prog 63 [(0,.int .i64 4),(3,.int .i64 o),(4,.sl q 0 1 5)]=some (.agg [.int .i64 4,.int .i64 0,.aj [],.int .i64 o,.sl q 0 1 5]):=ax
def ed{b:HB}(h:q<H.next):(H.alloc b).get q=H.get q:=em
end Go.Proofs.YtpbcimfiofmoeaaGreat
