/- Lemmas for the last file. -/
import Derived.Test.YtpbcimfiofmoeaaGreatWET
set_option linter.all false
set_option maxHeartbeats 32000000
namespace Go.Ab
set_option maxRecDepth 20000
open Go
variable{qe:Prop}
def nJ(h:qe:=by rw[e]at lra;omega):=h
def oH(h:qe:=by rw[e]at lrf;omega):=h
def Gg(h:qe:=by rw[Hp.get_set,if_neg hq]):=h
def BX(h:qe:=by simpa using hnH):=h
def T8(h:qe:=by have:=C.F.bo.len (P:=Tryz.prog) (H':=H) Tryz.underlying60;rw[List.length_map,hN]at this;exact this):=h
def zh(h:qe:=by simp only[aG,Nat.reduceBEq, *];exact hZ (n:=M) ac ac):=h
def T9(h:qe:=by rw[<- Y,Hp.get_set,if_neg U,Hp.get_set,if_neg ac]):=h
def Ua(h:qe:=by rw[<- Y,Hp.get_set,if_neg (fun e=>ac),Hp.get_set,if_pos rfl]):=h
def Ub(h:qe:=by rw[<- Y,Hp.get_set,if_neg (fun e=>by rw[e]at O;omega),Hp.get_set,if_neg ac,fr q U ac]):=h
def Uc(h:qe:=by rw[Hp.get_set,if_neg ac,aD,if_pos rfl];rfl):=h
def zgr:=@Nat.mul_zero
def oI:=And.intro @zgr @oN
end Go.Ab
namespace Go.Proofs.YtpbcimfiofmoeaaGreat
set_option maxRecDepth 20000
open Go Go.Ab Proofs.Tryz
variable{n i lo J n' Y V P m Z O:Nat}{l U:qC}{S:Nat->Prop}{H H':Hp}{cs:qu}{x y a h k:Int}{f g:Fu}{E:aq}
section
def Gi:qx:=[[103],[105,102],[],[97],[116,111,111,108,111,110,103,97,110,97,109,101,49,50,51,52,53],[57,120]]
def zi:qx:=[[120],[110],[97],[122],[114,101,116,117,114,110],[95]]
def zj:qx:=[[105],[98],[113],[120,32,121],[119,104,105,108,101]]
def zk:qx:=[[97],[99],[120],[102],[111,117,116]]
def zl:qx:=[[102],[104]]
def v8(n:Int):Ex:=.mk 1 n [] 0 []
def uI:Nat->Ex->Ex
 |0,e=>e
 |n+1,e=>.mk 4 0 [] 21 [uI n e]
def v9:Nat->qD->qD
 |0,b=>b
 |n+1,b=>[.mk 3 [] [] 0 gD (v8 0) [] (v9 n b) []]
def zm:St:=.mk 4 [] [] 0 gD (v8 0) [] [] []
def zn(i:Nat):St:=.mk 5 [] [] 0 gD (v8 i) [] [] []
def js(L:qy):Prop:=∀n∈L,gV n
def BY{L:qy}(h:js L):gV (cj L).1/\js (cj L).2:=by
 cases L with
 |nil=>exact⟨by show gV 0;unfold gV;omega,h⟩
 |cons a l=>exact⟨h a eg,fun n J=>h n (en _ J)⟩
def zgs(n:Int):gV (bB n):=by
 unfold bB gV;rw[IntKind.wrap_i64];omega
def zgt{n U:Int}(h:gV U):gV (td n U):=by
 unfold td;split
 .have e:∀k,gV (vI.getD k 0):=fun k=>by
   by_cases c:k<10
   .have:∀k:_root_.Fin 10,gV (vI.getD k.1 0):=by unfold gV;decide
    exact this ⟨k,c⟩
   .rw[gU,sH (by simp[vI];omega)];show gV 0;unfold gV;omega
  exact e _
 split
 .exact zgs _
 .exact h
def sr:gV 0:=fF
theorem tt(f:Int):∀(k Y:Nat) (L:qy),js L->dA (bW f k Y L).1/\js (bW f k Y L).2
 |0,Y,L,h=>⟨by simp[bW,dA,dt,sr],h⟩
 |k+1,Y,L,h=>by
  have ih:=tt f k (Y+1);obtain⟨Z,j⟩:=BY h;simp only[bW];generalize bc (cj L).1 16=q;generalize bc (bB ((cj L).1.tdiv 16)) 1000=m;split
  .split
   .exact⟨by simp[dA,dt,sr],j⟩
   .exact⟨by simp only[dA,dt,aW];exact zgt Z,j⟩
  .have a:=ih _ j;have b:=ih _ a.2;have c:=ih _ b.2;split
   .exact⟨by simp only[dA,dt,aW];exact⟨sr,a.1⟩,a.2⟩
   .split
    .exact⟨by simp only[dA,dt,aW];exact⟨sr,a.1,b.1,c.1⟩,c.2⟩
    .split
     .exact⟨by simp only[dA,dt,aW];exact⟨sr,a.1⟩,a.2⟩
     .exact⟨by simp only[dA,dt,aW];exact⟨sr,a.1,b.1⟩,b.2⟩
theorem Ud(f:Int):∀(n:Nat) (L:qy),js L->dt (iL f n L).1/\js (iL f n L).2
 |0,L,h=>⟨by simp[iL,dt],h⟩
 |n+1,L,h=>by
  have a:=tt f 3 2 L h;have b:=Ud f n _ a.2;rw[iL];exact⟨by rw[dt];exact⟨a.1,b.1⟩,b.2⟩
def nK:dA gD:=by simp[gD,dA,dt,sr]
def zgu{z:Int->dk->qD×dk}(Z:∀U s,js s.1->cz (z U s).1/\js (z U s).2.1)(f:Int)(Y:qy)(c q m:Int)(h:js Y):ey (io z f Y c q m).1/\js (io z f Y c q m).2.1:=by
 unfold io;split
 .have a:=tt f 5 0 Y h;exact⟨by simp only[ey,dt,cz,aW];exact⟨nK,a.1⟩,a.2⟩
 split
 .have a:=tt f 3 2 Y h;have b:=tt f 4 1 _ a.2;exact⟨by simp only[ey,dt,cz,aW];exact⟨a.1,b.1⟩,b.2⟩
 split
 .have a:=tt f 4 1 Y h;have b:=Z 3 ((bW f 4 1 Y).2,c) a.2;have d:=Z 2 (z 3 ((bW f 4 1 Y).2,c)).2 b.2;exact⟨by simp only[ey,dt,kN];exact⟨nK,a.1,b.1,d.1⟩,d.2⟩
 split
 .have a:=tt f 4 1 Y h;have b:=Z 3 ((bW f 4 1 Y).2,bB (c+1)) a.2;exact⟨by simp only[ey,dt,cz,aW,kN];exact⟨nK,a.1,b.1⟩,b.2⟩
 split
 .have a:=tt f 4 1 Y h;exact⟨by simp only[ey,dt,cz,aW];exact⟨nK,a.1⟩,a.2⟩
 split
 .have a:=Ud f (2-m.tmod 2).toNat Y h;exact⟨by simp only[ey,cz,aW];exact⟨nK,nK,a.1⟩,a.2⟩
 .exact⟨by simp only[ey,dt,cz,aW];exact⟨nK,nK⟩,h⟩
theorem KE{step:dk->St×dk}(U:∀s,js s.1->ey (step s).1/\js (step s).2.1):∀(n:Nat) (s:dk),js s.1->cz (iE step n s).1/\js (iE step n s).2.1
 |0,s,h=>⟨by simp[iE,cz],h⟩
 |n+1,s,h=>by
  have a:=U s h;have b:=KE U n _ a.2;rw[iE];split
  .exact⟨by simp[cz],h⟩
  .exact⟨by rw[cz];exact⟨a.1,b.1⟩,b.2⟩
theorem Ue(f:Int):∀(k Y:Nat) (s:dk),js s.1->ey (ip f k Y s).1/\js (ip f k Y s).2.1
 |0,Y,s,h=>⟨by simp only[ip,ey,dt,cz,aW];exact⟨nK,nK⟩,h⟩
 |k+1,Y,s,h=>by
  have ih:=Ue f k (Y+1);rw[ip,xy];exact zgu (fun U s Z=>KE ih _ ((cj s.1).2,s.2) (BY Z).2) f _ _ _ _ (BY h).2
def Uf(f:Int)(k deep:Nat)(U:Int)(s:dk)(h:js s.1):cz (mL f k deep U s).1/\js (mL f k deep U s).2.1:=
 KE (Ue f k deep) _ ((cj s.1).2,s.2) (BY h).2
def Ug{l:qy}(h:js l):∀f∈(eT l).funcs,cz f.body/\dA f.value:=by
 have z:js (l.take 60):=fun n J=>h n (List.mem_of_mem_take J);have Z:=Uf 0 4 0 5 ((cj (l.take 60)).2,0) (BY z).2;have v1:=tt 0 4 1 (iq (l.take 60)).2.1 Z.2;have m:=Uf 1 3 1 3 ((mN (l.take 60)).2,(iq (l.take 60)).2.2) v1.2;have v2:=tt 1 4 1 (kH (l.take 60)).2.1 m.2;intro f j;simp only[eT,jh]at j;rcases j with rfl|rfl
 .exact⟨Z.1,v1.1⟩
 .exact⟨m.1,v2.1⟩
theorem KF:∀{a b:qI},dt a->dt b->dt (a++b)
 |[],b,_,h=>h
 |x::a,b,h,k=>by rw[dt]at h;rw[lw,dt];exact⟨h.1,KF h.2 k⟩
theorem BZ:∀{a b:qD},cz a->cz b->cz (a++b)
 |[],b,_,h=>h
 |x::a,b,h,k=>by rw[cz]at h;rw[lw,cz];exact⟨h.1,BZ h.2 k⟩
def Uh:dt [vW]:=by simp[vW,dA,dt,sr]
def Ui(n:Int):cz [vZ n]:=by
 simp only[vZ,cz,ey,dt,aW];exact⟨nK,nK⟩
mutual
theorem Gj:∀(e:Ex) (z a:Int),dA e->dA (ge e z a)
 | .mk k n M O C,z,a,h=>by
   rw[dA]at h;have j:=Uj C (bc a C.length).toNat (bB (z.tdiv 9)) (bB (a.tdiv 3)) h.2;have Z:=fE (n:=a) (m:=3) ac ac;have V:gV (bc a 3):=fF;rw[ge];generalize bc z 9=q;split
   .rw[dA];exact h
   split
   .rw[dA];exact⟨V,h.2⟩
   split
   .rw[dA];exact h
   split
   .rw[dA];exact h
   split
   .rw[dA];exact⟨h.1,KF h.2 Uh⟩
   split
   .rw[dA,dt];exact⟨h.1,trivial⟩
   split
   .rw[dA];exact⟨h.1,j⟩
   .rw[dA];exact h
theorem Uj:∀(l:qI) (i:Nat) (z a:Int),dt l->dt (py l i z a)
 |[],i,z,a,h=>by rw[py];exact h
 |x::l,0,z,a,h=>by
  rw[dt]at h;rw[py,dt];exact⟨Gj x z a h.1,h.2⟩
 |x::l,i+1,z,a,h=>by
  rw[dt]at h;rw[py,dt];exact⟨h.1,Uj l i z a h.2⟩
end
mutual
theorem Uk:∀(e:St) (z a:Int),ey e->ey (jF e z a)
 | .mk k nm to n e v args Y els,z,a,h=>by
   rw[ey]at h;obtain⟨m,j,C,V,Z⟩:=h;have e1:=Gj e (bB (z.tdiv 13)) a m;have e2:=Gj v (bB (z.tdiv 13)) a j;have e3:=Ul Y (bc a Y.length).toNat (bB (z.tdiv 13)) (bB (a.tdiv 3)) V;rw[jF];generalize bc z 13=q;by_cases c0:q=0
   .rw[ai c0,ey];exact⟨m,j,C,V,Z⟩
   rw[af c0];by_cases O:q=1
   .rw[ai O,ey];exact⟨m,j,C,V,Z⟩
   rw[af O];by_cases U:q=2
   .rw[ai U,ey];exact⟨m,j,C,V,Z⟩
   rw[af U];by_cases M:q=3
   .rw[ai M,ey];exact⟨m,j,C,V,Z⟩
   rw[af M];by_cases J:q=4
   .rw[ai J,ey];exact⟨e1,j,C,V,Z⟩
   rw[af J];by_cases c5:q=5
   .rw[ai c5,ey];exact⟨m,e2,C,V,Z⟩
   rw[af c5];by_cases c6:q=6
   .rw[ai c6,ey];exact⟨m,j,KF C Uh,V,Z⟩
   rw[af c6];by_cases c7:q=7
   .rw[ai c7,ey];exact⟨m,j,(by rw[dt];trivial),V,Z⟩
   rw[af c7];by_cases c8:q=8
   .rw[ai c8,ey];exact⟨m,j,C,V,BZ Z (Ui _)⟩
   rw[af c8];by_cases c9:q=9
   .rw[ai c9,ey];exact⟨m,j,C,BZ V (Ui _),Z⟩
   rw[af c9];by_cases I:q=10
   .rw[ai I,ey];exact⟨m,j,C,e3,Z⟩
   rw[af I];rw[ey];exact⟨m,j,C,V,Z⟩
theorem Ul:∀(l:qD) (i:Nat) (z a:Int),cz l->cz (pz l i z a)
 |[],i,z,a,h=>by rw[pz];exact h
 |x::l,0,z,a,h=>by
  rw[cz]at h;rw[pz,cz];exact⟨Uk x z a h.1,h.2⟩
 |x::l,i+1,z,a,h=>by
  rw[cz]at h;rw[pz,cz];exact⟨h.1,Ul l i z a h.2⟩
end
theorem Um:∀(j:Nat) (e:Ex),dA e->dA (uI j e)
 |0,e,h=>h
 |j+1,e,h=>by
  have:=Um j e h;simp only[uI,dA,dt,aW];exact⟨sr,this⟩
def KG{n:Int}(m:0<=n)(h:n<2^60):dA (v8 n):=by
 simp only[v8,dA,dt,aW];unfold gV;omega
theorem Uo:∀(j:Nat) (b:qD),cz b->cz (v9 j b)
 |0,b,h=>h
 |j+1,b,h=>by
  have:=Uo j b h;simp only[v9,cz,ey,dt,aW,kN];exact⟨nK,KG ac ac,this⟩
def zgv(h:i<2^60):ey (zn i):=by
 simp only[zn,cz,ey,dt,aW];exact⟨nK,KG ac ac⟩
def zgw:ey zm:=by
 simp only[zm,cz,ey,dt,aW];exact⟨nK,KG ac ac⟩
theorem Gk:∀{l:qD},(∀x∈l,ey x)->cz l
 |[],_=>by rw[cz];trivial
 |x::l,h=>by rw[cz];exact⟨h x eg,Gk fun y hy=>h y (en _ hy)⟩
theorem KH:∀{l:qD},cz l->∀x∈l,ey x
 |[],_,x,hx=>by simp at hx
 |y::l,h,x,hx=>by
  rw[cz]at h;rcases gH.1 hx with rfl|hx
  .exact h.1
  .exact KH h.2 x hx
def zgx{l:qD}{x:St}(h:cz l)(C:ey x):cz (l.set i x):=Gk fun y hy=>by
 rcases sm hy with hy|rfl
 .exact KH h y hy
 .exact C
def tyMuQ0.tyF:=ad @dQ (ad @cr (ad @oV (ad @cK (ad @fW (ad @gh (ad @eL (ad @et (ad @dV (ad @dR (ad @dD (ad @jb (ad @jx (ad @sO (ad @eh (@pS)))))))))))))))
open tyMuQ0
noncomputable def lH:{c:SC // aE 285 (f26.body.getD .skip)=c}:=by
 refine⟨?_,?_⟩;rotate_left
 .simp only[f26,bN,aE,bH,bw,bM,bJ,Nat.blt,Nat.ble];rfl
theorem zgy(O:∀J,dE l 50 J=(oZ BV).sp J)(I:iA l 50=true){e:Ex}(Z:n<59)(M:b9 S n H cs e.cells)(C:e.sz<2^36)(k a:Int):
 aR prog (au pls l) 50 [.agg cs,.int .i64 k,.int .i64 a] H fun v H'=>v=.agg (ge e k a).cells/\Icy S H H':=by
 obtain⟨us,m,j⟩:=M;refine AT (x:=(⟨e,k,a⟩:MuA)) (enc:=sq) (ok:=fun y=>y.x.sz<2^36) (out:=fun y=>.agg (ge y.x y.how y.a).cells) (us:=[.agg us,.int .i64 k,.int .i64 a]) (n:=n+1) Gb (fun J=>by rw[O];rfl) I (fun y=>?_) C ac ⟨⟨us,m,rfl⟩,vp ⟨.int _ _,trivial⟩,vp ⟨.int _ _,trivial⟩,trivial⟩ ?_
 .obtain⟨x,_,_⟩:=y;simp only[sq,j0];rfl
 .show [AV.agg (us.map (bY 59)),.int .i64 k,.int .i64 a]=_;rw[j 59 ac];rfl
noncomputable def Gl:En:=⟨51,true,co (fun y=>y.x.sz<2^36) tq fun y=>.agg (jF y.x y.how y.a).cells⟩
def zgz(ρ:Nat->Int):dI prog ρ Gl:=dT fun y hy=>zgq ρ y hy
theorem zgA(O:∀J,dE l 51 J=(oZ Gl).sp J)(I:iA l 51=true){e:St}(Z:n<59)(M:b9 S n H cs e.cells)(C:e.sz<2^36)(k a:Int):
 aR prog (au pls l) 51 [.agg cs,.int .i64 k,.int .i64 a] H fun v H'=>v=.agg (jF e k a).cells/\Icy S H H':=by
 obtain⟨us,m,j⟩:=M;refine AT (x:=(⟨e,k,a⟩:MuB)) (enc:=tq) (ok:=fun y=>y.x.sz<2^36) (out:=fun y=>.agg (jF y.x y.how y.a).cells) (us:=[.agg us,.int .i64 k,.int .i64 a]) (n:=n+1) KA (fun J=>by rw[O];rfl) I (fun y=>?_) C ac ⟨⟨us,m,rfl⟩,vp ⟨.int _ _,trivial⟩,vp ⟨.int _ _,trivial⟩,trivial⟩ ?_
 .obtain⟨x,_,_⟩:=y;simp only[tq,nX];rfl
 .show [AV.agg (us.map (bY 59)),.int .i64 k,.int .i64 a]=_;rw[j 59 ac];rfl
structure zf2 (lG:qC):Prop extends zf6 lG where
 me:∀ar,dE lG 50 ar=(oZ BV).sp ar
 mei:iA lG 50=true
 ms:∀ar,dE lG 51 ar=(oZ Gl).sp ar
 msi:iA lG 51=true
 plm:(∀ar,dE lG 26 ar=none)/\iA lG 26=false
def uH.fB{Z pt':Nat->Nat}{b b' b2:Nat}{x' y':Int}{f' U:Fu}{pf lf bf:AV}{vf:qu}{pg lg bg:AV}{vg:qu}{m z bf':AV}{vf':qu}{j O M:AV}{C:qu}{Hs:Hp}(h:zd3 i Z lo b b' n H Y V x y f g pf lf bf vf pg lg bg vg)(hP:Z P=0)(I:P<H.next)(gp:H.get P=some (.cells [.sl Y 0 2 2,.sl V 0 2 9] 0 true))(old:∀q,q<lo->H.get q=Hs.get q)
 (h':zd3 i pt' lo b2 J n' H' Y V x' y' f' U m z bf' vf' j O M C) (hP':pt' P=0) (hn:H.next<=H'.next) (hk:∀q,q<H.next->Z q=0->H'.get q=H.get q) (hn':n'<=48) (h1:f'.sz<2^28) (h2:U.sz<2^28) (h3:rv f') (h4:rv U):uH lo P Hs H':=
 uH.of h' hP' ac ((hk P I hP).trans gp) (fun q hq=>(hk q (lh hq h.dm) (h.gg q hq)).trans (old q hq)) hn' h1 h2 h3 h4
def rx:=@uH.fB
section
variable {i:Nat} {pt:Nat -> Nat} {lo b b' n:Nat} {H:Hp} {ra rf:Nat} {x y:Int} {f g:Fu} {pf lf bf:AV} {v0 v1 v2 v3 v4:AV} {pg lg bg:AV} {w0 cm w2 w3 w4:AV}
def zd3.dt(h:zd3 0 pt lo b b' n H ra rf x y f g pf lf bf [v0,v1,v2,v3,v4] pg lg bg [w0,cm,w2,w3,w4]):H.get rf=some (.cells [.aj f.name,pf,lf,bf,v0,v1,v2,v3,v4,.aj g.name,pg,lg,bg,w0,cm,w2,w3,w4] 0 true):=h.gf
def zd3.dr(h:zd3 1 pt lo b b' n H ra rf x y f g pf lf bf [v0,v1,v2,v3,v4] pg lg bg [w0,cm,w2,w3,w4]):H.get rf=some (.cells [.aj g.name,pg,lg,bg,w0,cm,w2,w3,w4,.aj f.name,pf,lf,bf,v0,v1,v2,v3,v4] 0 true):=h.gf
end
theorem B0:∀a b:qx,cP (a++b)=cP a+cP b
 |[],b=>by rw[lL,cP];omega
 |x::a,b=>by rw[lw,cP,cP,B0 a b];omega
def wa{l:qx}(h:∀s∈l,s.length<=17)(j:Nat):(l.getD j []).length<=17:=by
 rw[gU];cases e:l[j]? with
 |none=>simp
 |some s=>exact h s (li e)
def KI{l:qx}(h:∀s∈l,s≠pB)(j:Nat):l.getD j []≠pB:=by
 rw[gU];cases e:l[j]? with
 |none=>intro h;cases h
 |some s=>exact h s (li e)
def mO:SC->SC
 | .seq a _=>a
 |x=>x
noncomputable def gE:SC:=fR (mO (fR (fR (fR (fR lH.1)))))
def zgB:((List.range 20).all fun i=>decide (UInt8.ofNat (IntKind.wrap .u8 (97+(i:Int))).toNat=UInt8.ofNat (97+i)))=true:=ax
def Up(h:i<20):UInt8.ofNat (IntKind.wrap .u8 (97+(i:Int))).toNat=UInt8.ofNat (97+i):=by
 have:=zgB;simp only[jX,rI,rG]at this;exact this i h
def Uq(H:Hp)(n:Int):de prog H 93 1 [(0,.int .u8 n)]=some (.sl H.next 0 1 1,H.alloc (.cells [.int .u8 n] 0 true)):=ax
theorem Gm{r:Nat}{n:Int}(hg:H.get r=some (.cells [.int .u8 n] 0 true)):kX prog H 93 9 (.sl r 0 1 1)=some (.aj [UInt8.ofNat n.toNat]):=by
 have hx:fk H 1 (.sl r 0 1 1)=some (1,[.int .u8 n]):=tR (H:=H) (r:=r) (o:=0) (n:=1) (z:=1) (s:=1) hg aw;simp only[kX,underlying93,underlying9,underlying5,hx];rfl
def zgC(n:Int):dd prog 63 [(0,.int .i64 1),(1,.int .i64 n)]=some (.agg [.int .i64 1,.int .i64 n,.aj [],.int .i64 0,.ag]):=ax
def tu(c:UInt8)(j:Nat):qx:=(List.range j).map fun j=>[c,UInt8.ofNat (97+j)]
def Ur(c:UInt8)(j:Nat):tu c (j+1)=tu c j++[[c,UInt8.ofNat (97+j)]]:=by simp[tu,AJ]
def zgD(c:UInt8)(j:Nat):(tu c j).length=j:=by simp[tu]
theorem Us(c:UInt8):∀j,cP (tu c j)<=20*j
 |0=>by simp[tu,cP]
 |j+1=>by
  have:=Us c j;rw[Ur,B0];simp only[cP,l8];omega
def ry(j:Nat):qD:=(List.range j).map zn
def Ut(j:Nat):ry (j+1)=ry j++[zn j]:=by simp[ry,AJ]
theorem Uu:∀j,bi (ry j)<=20*j
 |0=>by simp[ry,bi]
 |j+1=>by
  have:=Uu j;rw[Ut,xD];simp only[bi,zn,St.sz,v8,gD,Ex.sz,cy,fq];omega
def ss(j:Nat):qD:=List.replicate j zm
theorem Uv(j:Nat):ss (j+1)=ss j++[zm]:=by rw[ss,List.replicate_succ'];rfl
theorem Uw:∀j,bi (ss j)<=20*j
 |0=>by simp[ss,bi]
 |j+1=>by
  have:=Uw j;rw[Uv,xD];simp only[bi,zm,St.sz,v8,gD,Ex.sz,cy,fq];omega
def zgE(j:Nat)(h:j<2^60):cz (ry j):=Gk fun x hx=>by
 simp only[ry,mh,rI]at hx;obtain⟨i,I,rfl⟩:=hx;exact zgv ac
def zgF(j:Nat)(_:j<2^60):cz (ss j):=Gk fun x hx=>by
 rw[DZ hx];exact zgw
def zgG(j:Nat):(ry j).length=j:=by simp[ry]
def zgH(j:Nat):(ss j).length=j:=by simp[ss]
structure AtM (i:Nat) (a h k:Int) (lo m P:Nat) (Hs H:Hp) (ra rf:Nat) (x y:Int) (f g:Fu) (pf lf bf:AV) (vf:qu) (pg lg bg:AV) (vg:qu) (E:aq):Prop where
 X:∃pt b b',zd3 i pt lo b b' 14 H ra rf x y f g pf lf bf vf pg lg bg vg/\pt P=0
 hi:i=0\/i=1
 hm:m<lo
 loP:lo<=P
 ltP:P<H.next
 gp:H.get P=some (.cells [.sl ra 0 2 2,.sl rf 0 2 9] 0 true)
 old:∀q,q<lo->H.get q=Hs.get q
 fs:f.sz<2^24
 gs:g.sz<2^24
 fn:rv f
 gn:rv g
 hpi:bc a 2=i
 k2:E.at 2=.int .i64 a
 k6:E.at 6=.ptr m 0
 k7:E.at 7=.ptr P 0
 k8:E.at 8=.ptr rf (9*i)
 k9:E.at 9=.int .i64 k
 k27:E.at 27=.int .i64 h
def mP(lo m P:Nat)(Z:Hp):AX->aq->Hp->Prop:=fun x E' H'=>x=.normal/\E'.at 6=.ptr m 0/\E'.at 7=.ptr P 0/\uH lo P Z H'
end
section
def tyMuQa.tyF:=ad @dQ (ad @cr (ad @oV (ad @cK (ad @fW (ad @gh (ad @eL (ad @et (ad @dV (ad @dR (ad @dD (ad @jb (ad @jx (ad @sO (ad @eh (ad @pS (@FQ))))))))))))))))
open tyMuQa
set_option maxRecDepth 100000 in
theorem zgI{V:qC}(hG:zf2 V){Hs:Hp}{pf lf bf:AV}{vf:qu}{pg lg bg:AV}{vg:qu}(U:AtM i a h k lo m P Hs H Y Z x y f g pf lf bf vf pg lg bg vg E)(hh:(∀j∈[1,2,3,4,5,6,7,8,9,10,11,12,13,14,15,16,17,18],h≠j)):bS prog (au pls V) 26 285 gE E H (mP lo m P Hs):=by
 obtain⟨⟨pt,b,b',hX,O⟩,hi,hm,loP,M,gp,J,fs,gs,fn,gn,hpi,k2,k6,k7,k8,k9,k27⟩:=U;have I:(au pls V).keep 26=false:=rfl
 skip
 obtain⟨v0,v1,v2,v3,v4,rfl⟩:=dW hX.F.len;obtain⟨w0,cm,w2,w3,w4,rfl⟩:=dW hX.G.len;obtain⟨z0,z1,z2,z3,z4⟩:=ji hX.F.one;have ltA:=hX.dc;have ltF:=hX.cw;have hlo:=hX.dm;have hbb:=hX.hb;have C:=hX.bP;have lra:=hX.cI;have z:Z≠P:=fun e=>by rw[e]at C;omega
 have raP:Y≠P:=fun e=>nJ;have hrr:=hX.ne;have lof:=hX.aK (q:=Z) ac;have loa:=hX.aK (q:=Y) ac;have e1:(Z == H.next)=false:=ak ac;have e2:(Z == H.next+1)=false:=ak ac;have e3:(Z == H.next+2)=false:=ak ac;have e4:(H.next == Z)=false:=ak ac;have e5:(Z == P)=false:=ak z;have e6:(P == Z)=false:=ak (Ne.symm z);have e7:(P == H.next)=false:=ak ac;have e8:(P == H.next+1)=false:=ak ac;have e9:(Y == H.next)=false:=ak ac;have e10:(Y == H.next+1)=false:=ak ac;simp only[AB,EG,false_implies,implies_true,aW]at hh;dsimp only[gE,mO,fR,lH];repeat' (first
  |(apply aj ?_;clear hK K)|apply Ry.o ?_|(apply bu (fun hb hbp=>?_) (fun hb hbp=>?_)<;>try(cases hb;done))|apply cW ?_|(apply am fun K hK=>?_)|apply dX ?_|apply fA ?_|fail)
 exact⟨rfl,eE,eE,uH.of hX O M gp J ac ac ac fn gn⟩
set_option maxRecDepth 100000 in
theorem zgJ(hG:zf2 U){Hs:Hp}{pf lf bf:AV}{vf:qu}{pg lg bg:AV}{vg:qu}(j:AtM i a h k lo m P Hs H Y Z x y f g pf lf bf vf pg lg bg vg E)(hh:h=1):bS prog (au pls U) 26 285 gE E H (mP lo m P Hs):=by
 obtain⟨⟨pt,b,b',hX,V⟩,hi,hm,loP,M,gp,J,fs,gs,fn,gn,hpi,k2,k6,k7,k8,k9,k27⟩:=j;have I:(au pls U).keep 26=false:=rfl;subst hh;obtain⟨v0,v1,v2,v3,v4,rfl⟩:=dW hX.F.len;obtain⟨w0,cm,w2,w3,w4,rfl⟩:=dW hX.G.len;obtain⟨z0,z1,z2,z3,z4⟩:=ji hX.F.one;have C:=hX.dc;have ltF:=hX.cw;have hlo:=hX.dm;have hbb:=hX.hb;have lrf:=hX.bP;have lra:=hX.cI;have z:Z≠P:=fun e=>oH;have raP:Y≠P:=fun e=>nJ;have hrr:=hX.ne;have lof:=hX.aK (q:=Z) ac;have loa:=hX.aK (q:=Y) ac;have e1:(Z == H.next)=false:=ak ac;have e2:(Z == H.next+1)=false:=ak ac;have e3:(Z == H.next+2)=false:=ak ac;have e4:(H.next == Z)=false:=ak ac;have e5:(Z == P)=false:=ak z;have e6:(P == Z)=false:=ak (Ne.symm z);have e7:(P == H.next)=false:=ak ac;have e8:(P == H.next+1)=false:=ak ac;have e9:(Y == H.next)=false:=ak ac;have e10:(Y == H.next+1)=false:=ak ac;have hr:=fE (n:=k) (m:=6) ac ac;have hr0:=hr.1;have hnm:=vY Gi (n:=bc k 6) FT;have hix:=fun r=>vX r 6 hr.1 ac;have hbs:=fun H=>Gc H [103] [105,102] [] [97] [116,111,111,108,111,110,103,97,110,97,109,101,49,50,51,52,53] [57,120];change ∀H,de _ H _ _ _=some (_,H.alloc (.cells (Gi.map .aj) 0 true))at hbs;rcases hi with rfl|rfl;all_goals
  simp only[oI]at k8;first|have gf:=hX.dt|have gf:=hX.dr
  dsimp only[gE,mO,fR,lH];repeat' (first
   |(apply aj ?_;clear hK K)|apply Ry.o ?_|apply iS ?_|(apply iz ?_;first|refine bK (jE hG.pick k 6 aH _) ?_)|(apply bu (fun hb hbp=>?_) (fun hb hbp=>?_)<;>try(cases hb;done))|apply cW ?_|(apply am fun K hK=>?_)|apply dX ?_|fail)
  refine⟨rfl,eE,eE,rx hX V M gp J (hX.fu (x':=x) (y':=y) (nf:=Gi.getD (bc k 6).toNat []) ?_ ?_ ?_ ?_) V ?_ ?_ ac ?_ ac ⟨KI aH _,fn.2⟩ gn⟩
  .simp only[bq,aU];omega
  .intro q _ O h2 h3;rw[aM,af h3,ed O]
  .rw[aM,af ac,ed C];exact hX.ga
  .rw[aM,ai rfl];rfl
  .simp only[bq,aU];omega
  .intro q O h2;rw[aM,af (fun e=>by rw[e]at h2;omega),ed O]
  .have:=wa (l:=Gi) aH (bc k 6).toNat;simp only[Fu.sz]at fs⊢;omega
set_option maxRecDepth 100000 in
theorem zgK{O:qC}(hG:zf2 O){Hs:Hp}{pf lf bf:AV}{vf:qu}{pg lg bg:AV}{vg:qu}(j:AtM i a h k lo m P Hs H V Z x y f g pf lf bf vf pg lg bg vg E)(hh:h=2):bS prog (au pls O) 26 285 gE E H (mP lo m P Hs):=by
 obtain⟨⟨pt,b,b',hX,U⟩,hi,hm,loP,J,gp,I,fs,gs,fn,gn,hpi,k2,k6,k7,k8,k9,k27⟩:=j;have C:(au pls O).keep 26=false:=rfl;subst hh;obtain⟨v0,v1,v2,v3,v4,rfl⟩:=dW hX.F.len;obtain⟨w0,cm,w2,w3,w4,rfl⟩:=dW hX.G.len;obtain⟨z0,z1,z2,z3,z4⟩:=ji hX.F.one;have ltA:=hX.dc;have ltF:=hX.cw;have hlo:=hX.dm;have hbb:=hX.hb;have lrf:=hX.bP;have lra:=hX.cI;have z:Z≠P:=fun e=>oH;have raP:V≠P:=fun e=>nJ;have hrr:=hX.ne;have lof:=hX.aK (q:=Z) ac;have loa:=hX.aK (q:=V) ac;have e1:(Z == H.next)=false:=ak ac;have e2:(Z == H.next+1)=false:=ak ac;have e3:(Z == H.next+2)=false:=ak ac;have e4:(H.next == Z)=false:=ak ac;have e5:(Z == P)=false:=ak z;have e6:(P == Z)=false:=ak (Ne.symm z);have e7:(P == H.next)=false:=ak ac;have e8:(P == H.next+1)=false:=ak ac;have e9:(V == H.next)=false:=ak ac;have e10:(V == H.next+1)=false:=ak ac;have hr:=fE (n:=k) (m:=6) ac ac;have hr0:=hr.1;have hnm:=vY zi (n:=bc k 6) FT;have hix:=fun r=>vX r 6 hr.1 ac;have hbs:=fun H=>Gc H [120] [110] [97] [122] [114,101,116,117,114,110] [95];change ∀H,de _ H _ _ _=some (_,H.alloc (.cells (zi.map .aj) 0 true))at hbs;obtain⟨N,hN⟩:∃N,f.params.length=N:=⟨_,rfl⟩;have hNl:N<2^30:=by
  have Y:=iU f.params;simp only[Fu.sz]at fs;omega
 have hnl:=wa (l:=zi) aH (bc k 6).toNat;obtain⟨H',a1,a2,a3,a4⟩:=hX.fL (Hb:=(H.alloc (.cells (zi.map .aj) 0 true)).alloc (.cells [.aj (zi.getD (bc k 6).toNat [])] 0 true)) cB (fun q _ Y=>by rw[ed cB,ed Y]) (r:=H.next+1) (s:=zi.getD (bc k 6).toNat []) te hN hNl;simp only[aU,iH,Nat.reduceAdd]at a1 a2 a3 a4;have fr:∀q,q<H.next->pt q≠b->H'.get q=H.get q:=fun q Y M=>by
  rw[a3 q ac (.inr M),ed cB,ed Y]
 have gr:=fr Z ltF ac;rcases hi with rfl|rfl;all_goals
  simp only[oI]at k8;first|have gf:=hX.dt|have gf:=hX.dr
  rw[gf]at gr;dsimp only[gE,mO,fR,lH];repeat' (first
   |(apply aj ?_;clear hK K)|apply Ry.o ?_|apply iS ?_|(apply iz ?_;first|refine bK (jE hG.pick k 6 aH _) ?_)|(apply bu (fun hb hbp=>?_) (fun hb hbp=>?_)<;>try(cases hb;done))|apply cW ?_|(apply am fun K hK=>?_)|(apply ci 8 [(4,7),(4,11),(5,7),(5,11),(9,11),(10,11)] fun K hK=>?_)|(apply bD ?_;try intro _)|(apply ch ?_ ?_<;>clear hK K)|apply eP ?_|apply jL rfl ?_|apply dX ?_|fail)
  .exact cn
  refine⟨rfl,eE,eE,rx hX U J gp I (a4 _ rfl (fun q hq=>Gg) Bh) (by rw[af ac];exact U) ?_ ?_ ac ?_ ac fn gn⟩
  .simp only[bq];omega
  .intro q Y M;rw[aM,af (fun e=>by rw[e]at M;omega),fr q Y ac]
  .simp only[Fu.sz,B0,cP]at fs⊢;omega
set_option maxRecDepth 100000 in
theorem zgL{O:qC}(hG:zf2 O){Hs:Hp}{pf lf bf:AV}{vf:qu}{pg lg bg:AV}{vg:qu}(j:AtM i a h k lo m P Hs H V Z x y f g pf lf bf vf pg lg bg vg E)(hh:h=3):bS prog (au pls O) 26 285 gE E H (mP lo m P Hs):=by
 obtain⟨⟨pt,b,b',hX,U⟩,hi,hm,loP,J,gp,I,fs,gs,fn,gn,hpi,k2,k6,k7,k8,k9,k27⟩:=j;have C:(au pls O).keep 26=false:=rfl;subst hh;obtain⟨v0,v1,v2,v3,v4,rfl⟩:=dW hX.F.len;obtain⟨w0,cm,w2,w3,w4,rfl⟩:=dW hX.G.len;obtain⟨z0,z1,z2,z3,z4⟩:=ji hX.F.one;have ltA:=hX.dc;have ltF:=hX.cw;have hlo:=hX.dm;have hbb:=hX.hb;have lrf:=hX.bP;have lra:=hX.cI;have z:Z≠P:=fun e=>oH;have raP:V≠P:=fun e=>nJ;have hrr:=hX.ne;have lof:=hX.aK (q:=Z) ac;have loa:=hX.aK (q:=V) ac;have e1:(Z == H.next)=false:=ak ac;have e2:(Z == H.next+1)=false:=ak ac;have e3:(Z == H.next+2)=false:=ak ac;have e4:(H.next == Z)=false:=ak ac;have e5:(Z == P)=false:=ak z;have e6:(P == Z)=false:=ak (Ne.symm z);have e7:(P == H.next)=false:=ak ac;have e8:(P == H.next+1)=false:=ak ac;have e9:(V == H.next)=false:=ak ac;have e10:(V == H.next+1)=false:=ak ac;have hr:=fE (n:=k) (m:=5) ac ac;have hr0:=hr.1;have hnm:=vY zj (n:=bc k 5) FU;have hix:=fun r=>vX r 5 hr.1 ac;have hbs:=fun H=>KC H [105] [98] [113] [120,32,121] [119,104,105,108,101];change ∀H,de _ H _ _ _=some (_,H.alloc (.cells (zj.map .aj) 0 true))at hbs;obtain⟨N,hN⟩:∃N,f.ak.length=N:=⟨_,rfl⟩;have hNl:N<2^30:=by
  have Y:=iU f.ak;simp only[Fu.sz]at fs;omega
 have hnl:=wa (l:=zj) aH (bc k 5).toNat;obtain⟨H',a1,a2,a3,a4⟩:=hX.e0 (Hb:=(H.alloc (.cells (zj.map .aj) 0 true)).alloc (.cells [.aj (zj.getD (bc k 5).toNat [])] 0 true)) cB (fun q _ Y=>by rw[ed cB,ed Y]) (r:=H.next+1) (s:=zj.getD (bc k 5).toNat []) te hN hNl;simp only[aU,iH,Nat.reduceAdd]at a1 a2 a3 a4;have fr:∀q,q<H.next->pt q≠b+1->H'.get q=H.get q:=fun q Y M=>by
  rw[a3 q ac (.inr M),ed cB,ed Y]
 have gr:=fr Z ltF ac;rcases hi with rfl|rfl;all_goals
  simp only[oI]at k8;first|have gf:=hX.dt|have gf:=hX.dr
  rw[gf]at gr;dsimp only[gE,mO,fR,lH];repeat' (first
   |(apply aj ?_;clear hK K)|apply Ry.o ?_|apply iS ?_|(apply iz ?_;first|refine bK (jE hG.pick k 5 aH _) ?_)|(apply bu (fun hb hbp=>?_) (fun hb hbp=>?_)<;>try(cases hb;done))|apply cW ?_|(apply am fun K hK=>?_)|(apply ci 10 [(4,7),(4,11),(5,7),(5,11),(9,11),(10,11)] fun K hK=>?_)|(apply bD ?_;try intro _)|(apply ch ?_ ?_<;>clear hK K)|apply eP ?_|apply jL rfl ?_|apply dX ?_|fail)
  .exact cn
  refine⟨rfl,eE,eE,rx hX U J gp I (a4 _ rfl (fun q hq=>Gg) Bh) (by rw[af ac];exact U) ?_ ?_ ac ?_ ac fn gn⟩
  .simp only[bq];omega
  .intro q Y M;rw[aM,af (fun e=>by rw[e]at M;omega),fr q Y ac]
  .simp only[Fu.sz,B0,cP]at fs⊢;omega
end
section
def tyMuQc.tyF:=ad @dQ (ad @cr (ad @oV (ad @cK (ad @fW (ad @gh (ad @eL (ad @et (ad @dV (ad @dR (ad @dD (ad @jb (ad @jx (ad @sO (ad @eh (ad @pS (ad @Uq (ad @FQ (ad @J3 (ad @zf (ad @BW (@zgC)))))))))))))))))))))
open tyMuQc
set_option maxRecDepth 100000 in
theorem zgM{lG:qC}(hG:zf2 lG){Hs:Hp}{pf lf bf:AV}{vf:qu}{pg lg bg:AV}{vg:qu}(hat:AtM i a h k lo m P Hs H J Z x y f g pf lf bf vf pg lg bg vg E)(hh:h=4):bS prog (au pls lG) 26 285 gE E H (mP lo m P Hs):=by
 obtain⟨⟨pt,b,b',hX,hPt⟩,hi,hm,loP,ltP,gp,old,fs,gs,fn,gn,hpi,k2,k6,k7,k8,k9,k27⟩:=hat;have hkeep:(au pls lG).keep 26=false:=rfl;subst hh;obtain⟨v0,v1,v2,v3,v4,rfl⟩:=dW hX.F.len;obtain⟨w0,cm,w2,w3,w4,rfl⟩:=dW hX.G.len;obtain⟨z0,z1,z2,z3,z4⟩:=ji hX.F.one;have ltA:=hX.dc;have ltF:=hX.cw;have hlo:=hX.dm;have hbb:=hX.hb;have lrf:=hX.bP;have lra:=hX.cI;have rfP:Z≠P:=fun e=>oH;have raP:J≠P:=fun e=>nJ;have hrr:=hX.ne;have lof:=hX.aK (q:=Z) ac;have loa:=hX.aK (q:=J) ac;have e1:(Z == H.next)=false:=ak ac;have e2:(Z == H.next+1)=false:=ak ac;have e3:(Z == H.next+2)=false:=ak ac;have e4:(H.next == Z)=false:=ak ac;have e5:(Z == P)=false:=ak rfP;have e6:(P == Z)=false:=ak (Ne.symm rfP);have e7:(P == H.next)=false:=ak ac;have e8:(P == H.next+1)=false:=ak ac;have e9:(J == H.next)=false:=ak ac;have e10:(J == H.next+1)=false:=ak ac;have hpr:=fE (n:=k) (m:=12) ac ac;obtain⟨M,hM⟩:∃M:Nat,bc k 12=(M:Int):=⟨(bc k 12).toNat,ac⟩;have hMl:M<12:=ac;have kp:=fun H=>jE hG.pick k 12 aH H;rw[hM]at kp;rcases hi with rfl|rfl;all_goals
  simp only[oI]at k8;first|have gf:=hX.dt|have gf:=hX.dr
  dsimp only[gE,mO,fR,lH];repeat' (first
   |(apply aj ?_;clear hK K)|apply Ry.o ?_|(apply bu (fun hb hbp=>?_) (fun hb hbp=>?_)<;>try(cases hb;done))|apply cW ?_|(apply am fun K hK=>?_)|apply dX ?_|fail)
  refine cl [2,6,7,8,9] [] 10 M (fun j E V=>∃z lf',zd3 _ z lo b b' 14 V J Z x y {f with ak:=f.ak++tu 118 j} g pf lf' bf [v0,v1,v2,v3,v4] pg lg bg [w0,cm,w2,w3,w4]/\z P=0/\(∀q,q<H.next->pt q=0->z q=0)/\(∀q,q<H.next->pt q=0->V.get q=H.get q)) eE ⟨pt,lf,by rw[show f.ak++tu 118 0=f.ak from aS _];exact hX,hPt,fun _ _ h=>h,fun _ _ _=>rfl⟩ ?_;rintro j E V hj hcE hrH hnH hsI ⟨z,lf',C,hP3,hl3,hf3⟩;(try simp only[bC,aZ,aW,aG,Nat.reduceBEq, *]at hcE);(try simp only[aZ, *]at hrH);(try simp only[aU,bq,ce,bR,Nat.reduceAdd]at hnH);have hnx:H.next<=V.next:=BX
  have f1:(Z == V.next)=false:=ak ac;have f2:(Z == V.next+1)=false:=ak ac;have f3:(Z == V.next+2)=false:=ak ac;first|have gf3:=C.dt|have gf3:=C.dr
  repeat' (first
   |(apply aj ?_;clear hK K)|apply Ry.o ?_|(apply iz ?_;first|refine bK (kp _) ?_)|(apply bu (fun hb hbp=>?_) (fun hb hbp=>?_)<;>try(cases hb;done))|apply cW ?_|(apply am fun K hK=>?_)|(apply ci 15 [(4,12),(7,12),(8,12),(9,12),(11,12)] fun K hK=>?_)|(apply bD ?_;try intro _)|apply eP ?_|apply dX ?_|apply fA ?_|apply iT ?_)
  .have hlt:j<M:=by omega
   have lrf3:=C.bP;have hw97:IntKind.wrap .i64 (97+(j:Int))=97+(j:Int):=kR ac ac;have hcv:=fun H=>pS H .i64 (97+(j:Int));generalize hmm:IntKind.wrap .u8 (97+(j:Int))=mm at hcv;have U:UInt8.ofNat mm.toNat=UInt8.ofNat (97+j):=by rw[<-hmm];exact Up ac
   have O:(V.alloc (.cells [.int .u8 mm] 0 true)).get V.next=some (.cells [.int .u8 mm] 0 true):=fc
   have hcu:=Gm O;rw[U]at hcu;have hcat:∀D t,eD prog D .add t (.aj [118]) (.aj [UInt8.ofNat (97+j)])=some (.aj [118,UInt8.ofNat (97+j)]):=fun D t=>Mv (by simp[ee]);obtain⟨N,hN⟩:∃N,(f.ak++tu 118 j).length=N:=⟨_,rfl⟩;have hNl:N<2^30:=by
    have Y:=iU f.ak;rw[iR,zgD]at hN;simp only[Fu.sz]at fs;omega
   obtain⟨H',a1,a2,a3,a4⟩:=C.e0 (Hb:=(V.alloc (.cells [.int .u8 mm] 0 true)).alloc (.cells [.aj [118,UInt8.ofNat (97+j)]] 0 true)) cB (fun q _ Y=>by rw[ed cB,ed Y]) (r:=V.next+1) (s:=[118,UInt8.ofNat (97+j)]) te hN hNl;simp only[aU,iH,Nat.reduceAdd]at a1 a2 a3 a4;have fr:∀q,q<V.next->z q≠b+1->H'.get q=V.get q:=fun q Y I=>by
    rw[a3 q ac (.inr I),ed cB,ed Y]
   have gr:=(fr Z ac ac).trans gf3;have cS:V.next<=H'.next:=ac
   have gu:H'.get V.next=some (.cells [.int .u8 mm] 0 true):=by rw[a3 V.next ac (.inl (ay _)),ed cB];exact O
   have gs2:H'.get (V.next+1)=some (.cells [.aj [118,UInt8.ofNat (97+j)]] 0 true):=by rw[a3 (V.next+1) ac (.inl ac),aD,ai cM]
   have hcu2:=Gm gu;rw[U]at hcu2;have hcu3:=Gm (H:=(V.alloc (.cells [.int .u8 mm] 0 true)).alloc (.cells [.aj [118,UInt8.ofNat (97+j)]] 0 true)) (r:=V.next) (by rw[ed cB];exact O);rw[U]at hcu3;repeat' (first
    |(apply aj ?_;clear hK K)|apply Rx.o ?_|apply jc ?_|(apply am fun K hK=>?_)|(apply bD ?_;try intro _)|(apply ch ?_ ?_<;>clear hK K)|apply eP ?_|apply jL rfl ?_|fail)
   .exact cn
   refine⟨ac,a0,a0,ca,zh,?_⟩;refine⟨_,_,by rw[Ur,<-mV];exact a4 _ rfl (fun q hq=>Gg) Bh,?_,?_,?_⟩
   .show(if _ then _ else _)=0;rw[af ac];exact hP3
   .intro q Y I;show(if _ then _ else _)=0;rw[af ac];exact hl3 q Y I
   .intro q Y I;have:=hl3 q Y I;rw[aM,af (fun e=>by rw[e]at this;omega),fr q ac ac];exact hf3 q Y I
  .have hje:j=M:=by omega
   subst hje;refine⟨rfl,eE,eE,rx hX hPt ltP gp old C hP3 hnx hf3 ac ?_ ac fn gn⟩;have:=Us 118 j;simp only[Fu.sz,B0]at fs⊢;omega
set_option maxRecDepth 100000 in
theorem zgN{lG:qC}(hG:zf2 lG){Hs:Hp}{ra:Nat}{pf lf bf:AV}{vf:qu}{pg lg bg:AV}{vg:qu}(hat:AtM i a h k lo m P Hs H ra Z x y f g pf lf bf vf pg lg bg vg E)(hh:h=10):bS prog (au pls lG) 26 285 gE E H (mP lo m P Hs):=by
 obtain⟨⟨pt,b,b',hX,hPt⟩,hi,hm,loP,ltP,gp,old,fs,gs,fn,gn,hpi,k2,k6,k7,k8,k9,k27⟩:=hat;have hkeep:(au pls lG).keep 26=false:=rfl;subst hh;obtain⟨v0,v1,v2,v3,v4,rfl⟩:=dW hX.F.len;obtain⟨w0,cm,w2,w3,w4,rfl⟩:=dW hX.G.len;obtain⟨z0,z1,z2,z3,z4⟩:=ji hX.F.one;have ltA:=hX.dc;have ltF:=hX.cw;have hlo:=hX.dm;have hbb:=hX.hb;have lrf:=hX.bP;have lra:=hX.cI;have rfP:Z≠P:=fun e=>oH;have raP:ra≠P:=fun e=>nJ;have hrr:=hX.ne;have lof:=hX.aK (q:=Z) ac;have loa:=hX.aK (q:=ra) ac;have e1:(Z == H.next)=false:=ak ac;have e2:(Z == H.next+1)=false:=ak ac;have e3:(Z == H.next+2)=false:=ak ac;have e4:(H.next == Z)=false:=ak ac;have e5:(Z == P)=false:=ak rfP;have e6:(P == Z)=false:=ak (Ne.symm rfP);have e7:(P == H.next)=false:=ak ac;have e8:(P == H.next+1)=false:=ak ac;have e9:(ra == H.next)=false:=ak ac;have e10:(ra == H.next+1)=false:=ak ac;have hpr:=fE (n:=k) (m:=24) ac ac;obtain⟨M,hM⟩:∃M:Nat,bc k 24=(M:Int):=⟨(bc k 24).toNat,ac⟩;have hMl:M<24:=ac;have kp:=fun H=>jE hG.pick k 24 aH H;rw[hM]at kp;rcases hi with rfl|rfl;all_goals
  simp only[oI]at k8;first|have gf:=hX.dt|have gf:=hX.dr
  dsimp only[gE,mO,fR,lH];repeat' (first
   |(apply aj ?_;clear hK K)|apply Ry.o ?_|(apply bu (fun hb hbp=>?_) (fun hb hbp=>?_)<;>try(cases hb;done))|apply cW ?_|(apply am fun K hK=>?_)|apply dX ?_|fail)
  refine cl [2,6,7,8,9] [] 13 M (fun j E V=>∃z J,zd3 _ z lo b b' 14 V ra Z x y {f with body:=f.body++ss j} g pf lf J [v0,v1,v2,v3,v4] pg lg bg [w0,cm,w2,w3,w4]/\z P=0/\(∀q,q<H.next->pt q=0->z q=0)/\(∀q,q<H.next->pt q=0->V.get q=H.get q)) eE ⟨pt,bf,by rw[show f.body++ss 0=f.body from aS _];exact hX,hPt,fun _ _ h=>h,fun _ _ _=>rfl⟩ ?_;rintro j E V hj hcE hrH hnH hsI ⟨z,J,C,hP3,hl3,hf3⟩;(try simp only[bC,aZ,aW,aG,Nat.reduceBEq, *]at hcE);(try simp only[aZ, *]at hrH);(try simp only[aU,bq,ce,bR,Nat.reduceAdd]at hnH);have hnx:H.next<=V.next:=BX
  have f1:(Z == V.next)=false:=ak ac;have f2:(Z == V.next+1)=false:=ak ac;have f3:(Z == V.next+2)=false:=ak ac;first|have gf3:=C.dt|have gf3:=C.dr
  obtain⟨o1,o2⟩:=C.F.bo.one;repeat' (first
   |(apply aj ?_;clear hK K)|apply Ry.o ?_|(apply iz ?_;first|refine bK (kp _) ?_)|(apply bu (fun hb hbp=>?_) (fun hb hbp=>?_)<;>try(cases hb;done))|apply cW ?_|(apply am fun K hK=>?_)|apply dX ?_|apply fA ?_|apply iT ?_)
  .have hlt:j<M:=by omega
   have lrf3:=C.bP;obtain⟨N,hN⟩:∃N,(f.body++ss j).length=N:=⟨_,rfl⟩;have hNl:N<2^30:=by
    have U:=mZ f.body;rw[iR,zgH]at hN;simp only[Fu.sz]at fs;omega
   have hlen:∀H,gO prog H 60 J=some (.int .i64 N):=fun H=>T8;obtain⟨H',flat,imm',a1,a2,a3,a4,a5,a6,a7,a8,I⟩:=C.e4 (Hb:=V.alloc qi) cB (fun q _ U=>ed U) (r:=V.next) (row:=[.int .i64 0,.aj [],.aj [],.int .i64 0,.int .i64 0,.int .i64 0,.aj [],.int .i64 0,.ag,.int .i64 0,.int .i64 0,.aj [],.int .i64 0,.ag,.ag,.ag,.ag]) fc rfl rfl hN hNl;simp only[aU]at a1 a2 a7 a8 I;have fr:∀q,q<V.next->z q≠b+2->H'.get q=V.get q:=fun q U O=>by
    rw[a8 q ac (.inr O),ed U]
   have gr:=(fr Z ac ac).trans gf3;have cS:V.next<=H'.next:=ac
   have hn1:N<N+1:=bT _;have g1:(V.next+1 == Z)=false:=ak ac;have gz:=@TQ;(apply Rx.dS 36 10 13 [0,1,2,3,4,5,6,7,8,9,11,12,13,10] [(3,8),(6,8),(7,8)] [(3,8),(6,8),(7,8)] ?_ ?_ ?_;rotate_left 2)
   .repeat' (first
     |apply Ry.o ?_|apply iS ?_|(apply bD ?_;try intro _)|apply eP ?_|apply jL rfl ?_|fail)
    try any_goals intro _
    repeat' (first
     |apply Ry.o ?_|apply iS ?_|(apply bD ?_;try intro _)|apply eP ?_|apply jL rfl ?_|fail)
    try any_goals intro _
    any_goals refine Ax ⟨?_,rfl,rfl⟩
    all_goals exact cn
   .repeat' (first
     |apply Ry.o ?_|apply iS ?_|(apply bD ?_;try intro _)|apply eP ?_|apply jL rfl ?_|fail)
    try any_goals intro _
    repeat' (first
     |(apply aj ?_;clear hK K)|fail)
    try any_goals intro _
    any_goals refine Ax ⟨?_,rfl,Na _ (fun e=>ac) _ _⟩
    all_goals exact cn
   generalize Y:Hp.set (Hp.set H' (V.next+1) (.cells (flat++[.int .i64 4,.aj [],.aj [],.int .i64 0,.int .i64 0,.int .i64 0,.aj [],.int .i64 0,.ag,.int .i64 1,.int .i64 0,.aj [],.int .i64 0,.ag,.ag,.ag,.ag]) imm' true)) Z _=H5;have X5:=I H5 [.int .i64 4,.aj [],.aj [],.int .i64 0,.int .i64 0,.int .i64 0,.aj [],.int .i64 0,.ag,.int .i64 1,.int .i64 0,.aj [],.int .i64 0,.ag,.ag,.ag,.ag] (zm) vC (fun q U O=>T9) Ua rfl (pw (n:=13) 4 [] [] 0 nF (pp 1 0 0 []) .ag .ag .ag) (by rw[<-Y,aM,ai rfl];rfl);have f5:∀q,q<V.next->z q=0->H5.get q=V.get q:=fun q U O=>Ub
   have n5:V.next<=H5.next:=by rw[<-Y];simp only[bq];omega
   clear Y a1 a2 I a8 gr;dsimp only[lP,pR,aC];repeat' (first
    |(apply aj ?_;clear hK K)|apply Rx.o ?_|(apply am fun K hK=>?_)|fail)
   refine⟨ac,a0,a0,ca,zh,?_⟩;refine⟨_,_,by rw[Uv,<-mV];exact X5,?_,?_,?_⟩
   .show(if _ then _ else _)=0;rw[af ac];exact hP3
   .intro q U O;show(if _ then _ else _)=0;rw[af ac];exact hl3 q U O
   .intro q U O;rw[f5 q ac (hl3 q U O)];exact hf3 q U O
  .have hje:j=M:=by omega
   subst hje;refine⟨rfl,eE,eE,rx hX hPt ltP gp old C hP3 hnx hf3 ac ?_ ac ⟨fn.1,BZ fn.2.1 (zgF _ ac),fn.2.2⟩ gn⟩;have:=Uw j;simp only[Fu.sz,xD]at fs⊢;omega
set_option maxRecDepth 100000 in
theorem zgO{lG:qC}(hG:zf2 lG){Hs:Hp}{ra:Nat}{pf lf bf:AV}{vf:qu}{pg lg bg:AV}{vg:qu}(hat:AtM i a h k lo m P Hs H ra Z x y f g pf lf bf vf pg lg bg vg E)(hh:h=11):bS prog (au pls lG) 26 285 gE E H (mP lo m P Hs):=by
 obtain⟨⟨pt,b,b',hX,hPt⟩,hi,hm,loP,ltP,gp,old,fs,gs,fn,gn,hpi,k2,k6,k7,k8,k9,k27⟩:=hat;have hkeep:(au pls lG).keep 26=false:=rfl;subst hh;obtain⟨v0,v1,v2,v3,v4,rfl⟩:=dW hX.F.len;obtain⟨w0,cm,w2,w3,w4,rfl⟩:=dW hX.G.len;obtain⟨z0,z1,z2,z3,z4⟩:=ji hX.F.one;have ltA:=hX.dc;have ltF:=hX.cw;have hlo:=hX.dm;have hbb:=hX.hb;have lrf:=hX.bP;have lra:=hX.cI;have rfP:Z≠P:=fun e=>oH;have raP:ra≠P:=fun e=>nJ;have hrr:=hX.ne;have lof:=hX.aK (q:=Z) ac;have loa:=hX.aK (q:=ra) ac;have e1:(Z == H.next)=false:=ak ac;have e2:(Z == H.next+1)=false:=ak ac;have e3:(Z == H.next+2)=false:=ak ac;have e4:(H.next == Z)=false:=ak ac;have e5:(Z == P)=false:=ak rfP;have e6:(P == Z)=false:=ak (Ne.symm rfP);have e7:(P == H.next)=false:=ak ac;have e8:(P == H.next+1)=false:=ak ac;have e9:(ra == H.next)=false:=ak ac;have e10:(ra == H.next+1)=false:=ak ac;have hpr:=fE (n:=k) (m:=260) ac ac;obtain⟨M,hM⟩:∃M:Nat,bc k 260=(M:Int):=⟨(bc k 260).toNat,ac⟩;have hMl:M<260:=ac;have kp:=fun H=>jE hG.pick k 260 aH H;rw[hM]at kp;rcases hi with rfl|rfl;all_goals
  simp only[oI]at k8;first|have gf:=hX.dt|have gf:=hX.dr
  dsimp only[gE,mO,fR,lH];repeat' (first
   |(apply aj ?_;clear hK K)|apply Ry.o ?_|(apply bu (fun hb hbp=>?_) (fun hb hbp=>?_)<;>try(cases hb;done))|apply cW ?_|(apply am fun K hK=>?_)|apply dX ?_|fail)
  refine cl [2,6,7,8,9] [] 14 M (fun j E V=>∃z J,zd3 _ z lo b b' 14 V ra Z x y {f with body:=f.body++ry j} g pf lf J [v0,v1,v2,v3,v4] pg lg bg [w0,cm,w2,w3,w4]/\z P=0/\(∀q,q<H.next->pt q=0->z q=0)/\(∀q,q<H.next->pt q=0->V.get q=H.get q)) eE ⟨pt,bf,by rw[show f.body++ry 0=f.body from aS _];exact hX,hPt,fun _ _ h=>h,fun _ _ _=>rfl⟩ ?_;rintro j E V hj hcE hrH hnH hsI ⟨z,J,C,hP3,hl3,hf3⟩;(try simp only[bC,aZ,aW,aG,Nat.reduceBEq, *]at hcE);(try simp only[aZ, *]at hrH);(try simp only[aU,bq,ce,bR,Nat.reduceAdd]at hnH);have hnx:H.next<=V.next:=BX
  have f1:(Z == V.next)=false:=ak ac;have f2:(Z == V.next+1)=false:=ak ac;have f3:(Z == V.next+2)=false:=ak ac;first|have gf3:=C.dt|have gf3:=C.dr
  obtain⟨o1,o2⟩:=C.F.bo.one;repeat' (first
   |(apply aj ?_;clear hK K)|apply Ry.o ?_|(apply iz ?_;first|refine bK (kp _) ?_)|(apply bu (fun hb hbp=>?_) (fun hb hbp=>?_)<;>try(cases hb;done))|apply cW ?_|(apply am fun K hK=>?_)|apply dX ?_|apply fA ?_|apply iT ?_)
  .have hlt:j<M:=by omega
   have lrf3:=C.bP;obtain⟨N,hN⟩:∃N,(f.body++ry j).length=N:=⟨_,rfl⟩;have hNl:N<2^30:=by
    have U:=mZ f.body;rw[iR,zgG]at hN;simp only[Fu.sz]at fs;omega
   have hlen:∀H,gO prog H 60 J=some (.int .i64 N):=fun H=>T8;obtain⟨H',flat,imm',a1,a2,a3,a4,a5,a6,a7,a8,I⟩:=C.e4 (Hb:=V.alloc qi) cB (fun q _ U=>ed U) (r:=V.next) (row:=[.int .i64 0,.aj [],.aj [],.int .i64 0,.int .i64 0,.int .i64 0,.aj [],.int .i64 0,.ag,.int .i64 0,.int .i64 0,.aj [],.int .i64 0,.ag,.ag,.ag,.ag]) fc rfl rfl hN hNl;simp only[aU]at a1 a2 a7 a8 I;have fr:∀q,q<V.next->z q≠b+2->H'.get q=V.get q:=fun q U O=>by
    rw[a8 q ac (.inr O),ed U]
   have gr:=(fr Z ac ac).trans gf3;have cS:V.next<=H'.next:=ac
   have hn1:N<N+1:=bT _;have g1:(V.next+1 == Z)=false:=ak ac;have gz:=@TQ;(apply Rx.dS 41 11 14 [0,1,2,3,4,5,6,7,8,9,10,12,13,14,11] [(3,9),(7,9),(8,9)] [(3,9),(7,9),(8,9)] ?_ ?_ ?_;rotate_left 2)
   .repeat' (first
     |apply Ry.o ?_|apply iS ?_|(apply bD ?_;try intro _)|apply eP ?_|apply jL rfl ?_|fail)
    try any_goals intro _
    repeat' (first
     |apply Ry.o ?_|apply iS ?_|(apply bD ?_;try intro _)|apply eP ?_|apply jL rfl ?_|fail)
    try any_goals intro _
    any_goals refine Ax ⟨?_,rfl,rfl⟩
    all_goals exact cn
   .repeat' (first
     |apply Ry.o ?_|apply iS ?_|(apply bD ?_;try intro _)|apply eP ?_|apply jL rfl ?_|fail)
    try any_goals intro _
    repeat' (first
     |(apply aj ?_;clear hK K)|fail)
    try any_goals intro _
    any_goals refine Ax ⟨?_,rfl,Na _ (fun e=>ac) _ _⟩
    all_goals exact cn
   generalize Y:Hp.set (Hp.set H' (V.next+1) (.cells (flat++[.int .i64 5,.aj [],.aj [],.int .i64 0,.int .i64 0,.int .i64 0,.aj [],.int .i64 0,.ag,.int .i64 1,.int .i64 j,.aj [],.int .i64 0,.ag,.ag,.ag,.ag]) imm' true)) Z _=H5;have X5:=I H5 [.int .i64 5,.aj [],.aj [],.int .i64 0,.int .i64 0,.int .i64 0,.aj [],.int .i64 0,.ag,.int .i64 1,.int .i64 j,.aj [],.int .i64 0,.ag,.ag,.ag,.ag] (zn j) vC (fun q U O=>T9) Ua rfl (pw (n:=13) 5 [] [] 0 nF (pp 1 j 0 []) .ag .ag .ag) (by rw[<-Y,aM,ai rfl];rfl);have f5:∀q,q<V.next->z q=0->H5.get q=V.get q:=fun q U O=>Ub
   have n5:V.next<=H5.next:=by rw[<-Y];simp only[bq];omega
   clear Y a1 a2 I a8 gr;dsimp only[lP,pR,aC];repeat' (first
    |(apply aj ?_;clear hK K)|apply Rx.o ?_|(apply am fun K hK=>?_)|fail)
   refine⟨ac,a0,a0,ca,zh,?_⟩;refine⟨_,_,by rw[Ut,<-mV];exact X5,?_,?_,?_⟩
   .show(if _ then _ else _)=0;rw[af ac];exact hP3
   .intro q U O;show(if _ then _ else _)=0;rw[af ac];exact hl3 q U O
   .intro q U O;rw[f5 q ac (hl3 q U O)];exact hf3 q U O
  .have hje:j=M:=by omega
   subst hje;refine⟨rfl,eE,eE,rx hX hPt ltP gp old C hP3 hnx hf3 ac ?_ ac ⟨fn.1,BZ fn.2.1 (zgE _ ac),fn.2.2⟩ gn⟩;have:=Uu j;simp only[Fu.sz,xD]at fs⊢;omega
end
section
def tyMuQb.tyF:=ad @dQ (ad @cr (ad @oV (ad @cK (ad @fW (ad @gh (ad @eL (ad @et (ad @dV (ad @dR (ad @dD (ad @jb (ad @jx (ad @sO (ad @eh (ad @pS (ad @zgd (ad @zge (ad @zf (@BW)))))))))))))))))))
open tyMuQb
theorem Ux:∀(j:Nat) (e:Ex),(uI j e).sz<=e.sz+20*j
 |0,e=>by simp[uI]
 |j+1,e=>by
  have:=Ux j e;rw[uI];simp only[Ex.sz,cy,fq];omega
theorem Uy:∀(j:Nat) (b:qD),bi (v9 j b)<=bi b+20*j
 |0,b=>by simp[v9]
 |j+1,b=>by
  have:=Uy j b;rw[v9];simp only[bi,St.sz,v8,gD,Ex.sz,cy,fq];omega
def zgP(v:AV)(h:AV.one v=true):dd prog 96 [(0,.int .i64 3),(5,.agg [.int .i64 1,.int .i64 0,.aj [],.int .i64 0,.ag]),(7,v)]=some (.agg [.int .i64 3,.aj [],.aj [],.int .i64 0,.int .i64 0,.int .i64 0,.aj [],.int .i64 0,.ag,.int .i64 1,.int .i64 0,.aj [],.int .i64 0,.ag,.ag,v,.ag]):=by
 cases v<;>first|(cases h;done)|kernel_rfl
section
variable {i:Nat} {pt:Nat -> Nat} {lo b b' n:Nat} {H:Hp} {ra rf:Nat} {x y:Int} {f g:Fu} {pf lf bf:AV} {vf:qu} {pg lg bg:AV} {vg:qu} (h:zd3 i pt lo b b' n H ra rf x y f g pf lf bf vf pg lg bg vg)
include h
def zd3.eZ{vf':qu}(w:Ex)(J:H.next<=H'.next)(M:n<=n')(z:∀q,lo<=q->q<H.next->q≠rf->pt q≠b+3->H'.get q=H.get q)(Z:H'.get rf=some (.cells (rr i (gM f.name pf lf bf vf') (gM g.name pg lg bg vg)) 0 true))
 (O:vf'.length=5) (Y:vf'.all AV.one=true) (V:b9 (fun q=>H.next<=q\/pt q=b+3) n' H' vf' w.cells):zd3 i (fun q=>if H.next<=q then b+3 else pt q) lo b b' n' H' ra rf x y {f with value:=w} g pf lf bf vf' pg lg bg vg:=by
 have hb:=h.hb;have U:=h.bP;have I:∀q,q<H.next->b<=pt q->pt q≠b+3->H'.get q=H.get q:=fun q m j C=>z q (h.aK ac) m (fun e=>nH) C
 refine h.fB ⟨ac,ac⟩ J M z Z ⟨O,Y,(h.F.ps.keep (fun k m j=>Ku) J fun k m j=>I k j ac ac).up M,(h.F.ls.keep (fun k m j=>Kr) J fun k m j=>I k j ac ac).up M,(h.F.bo.keep (fun k m j=>Ks) J fun k m j=>I k j ac ac).up M,V.aO (fun k m j=>?_) (ay _) fun _ _ _=>rfl⟩;show(if _ then _ else _)=b+3;split
 .rfl
 .rcases j with j|j
  .omega
  .exact j
end
set_option maxRecDepth 100000 in
theorem zgQ{lG:qC}(hG:zf2 lG){Hs:Hp}{pf lf bf:AV}{vf:qu}{pg lg bg:AV}{vg:qu}(hat:AtM i a h k lo m P Hs H O Z x y f g pf lf bf vf pg lg bg vg E)(hh:h=8):bS prog (au pls lG) 26 285 gE E H (mP lo m P Hs):=by
 obtain⟨⟨pt,b,b',hX,hPt⟩,hi,hm,loP,ltP,gp,old,fs,gs,fn,gn,hpi,k2,k6,k7,k8,k9,k27⟩:=hat;have hkeep:(au pls lG).keep 26=false:=rfl;subst hh;obtain⟨v0,v1,v2,v3,v4,rfl⟩:=dW hX.F.len;obtain⟨w0,cm,w2,w3,w4,rfl⟩:=dW hX.G.len;obtain⟨z0,z1,z2,z3,z4⟩:=ji hX.F.one;have ltA:=hX.dc;have ltF:=hX.cw;have hlo:=hX.dm;have hbb:=hX.hb;have lrf:=hX.bP;have lra:=hX.cI;have rfP:Z≠P:=fun e=>oH;have raP:O≠P:=fun e=>nJ;have hrr:=hX.ne;have lof:=hX.aK (q:=Z) ac;have loa:=hX.aK (q:=O) ac;have e1:(Z == H.next)=false:=ak ac;have e2:(Z == H.next+1)=false:=ak ac;have e3:(Z == H.next+2)=false:=ak ac;have e4:(H.next == Z)=false:=ak ac;have e5:(Z == P)=false:=ak rfP;have e6:(P == Z)=false:=ak (Ne.symm rfP);have e7:(P == H.next)=false:=ak ac;have e8:(P == H.next+1)=false:=ak ac;have e9:(O == H.next)=false:=ak ac;have e10:(O == H.next+1)=false:=ak ac;have hpr:=fE (n:=k) (m:=30) ac ac;obtain⟨M,hM⟩:∃M:Nat,bc k 30=(M:Int):=⟨(bc k 30).toNat,ac⟩;have hMl:M<30:=ac;have kp:=fun H=>jE hG.pick k 30 aH H;rw[hM]at kp;rcases hi with rfl|rfl;all_goals
  simp only[oI]at k8;first|have gf:=hX.dt|have gf:=hX.dr
  dsimp only[gE,mO,fR,lH];repeat' (first
   |(apply aj ?_;clear hK K)|apply Ry.o ?_|(apply bu (fun hb hbp=>?_) (fun hb hbp=>?_)<;>try(cases hb;done))|apply cW ?_|(apply am fun K hK=>?_)|apply dX ?_|fail)
  refine cl [2,6,7,8,9] [] 11 M (fun j E V=>∃z I J u2 u3 u4,zd3 _ z lo b b' (14+j) V O Z x y {f with value:=uI j f.value} g pf lf bf [I,J,u2,u3,u4] pg lg bg [w0,cm,w2,w3,w4]/\z P=0/\(∀q,q<H.next->pt q=0->z q=0)/\(∀q,q<H.next->pt q=0->V.get q=H.get q)) eE ⟨pt,v0,v1,v2,v3,v4,hX,hPt,fun _ _ h=>h,fun _ _ _=>rfl⟩ ?_;rintro j E V hj hcE hrH hnH hsI ⟨z,I,J,u2,u3,u4,C,hP3,hl3,hf3⟩;(try simp only[bC,aZ,aW,aG,Nat.reduceBEq, *]at hcE);(try simp only[aZ, *]at hrH);(try simp only[aU,bq,ce,bR,Nat.reduceAdd]at hnH);have hnx:H.next<=V.next:=BX
  have f1:(Z == V.next)=false:=ak ac;have f2:(Z == V.next+1)=false:=ak ac;have f3:(Z == V.next+2)=false:=ak ac;have ag:∀r,cq 5 (I::J::u2::u3::u4::r)=some (.agg [I,J,u2,u3,u4]):=fun r=>rfl;first|have gf3:=C.dt|have gf3:=C.dr
  repeat' (first
   |(apply aj ?_;clear hK K)|apply Ry.o ?_|apply iS ?_|(apply iz ?_;first|refine bK (kp _) ?_)|(apply bu (fun hb hbp=>?_) (fun hb hbp=>?_)<;>try(cases hb;done))|apply cW ?_|(apply am fun K hK=>?_)|apply dX ?_|apply fA ?_|apply iT ?_)
  .have hlt:j<M:=by omega
   obtain⟨y0,y1,y2,y3,y4⟩:=ji C.F.one;repeat' (first
    |(apply aj ?_;clear hK K)|fail)
   refine⟨ac,a0,a0,ca,zh,?_⟩;have lrf3:=C.bP;refine⟨_,_,_,_,_,_,C.eZ (H':=_) (n':=14+(j+1)) (vf':=[.int .i64 4,.int .i64 0,.aj [],.int .i64 21,.sl V.next 0 1 5]) (uI (j+1) f.value) ?_ ac ?_ ?_ rfl rfl ?_,?_,?_,?_⟩
   .simp only[bq,aU];omega
   .intro q _ Y U _;rw[aM,af U,ed Y]
   .rw[aM,ai rfl];rfl
   .refine vJ (n:=14+j) _ _ _ _ (se (n:=14+j) (a:=[[I,J,u2,u3,u4]]) (b:=[(uI j f.value).cells]) (imm:=0) (tip:=true) (.inl (ay _)) (bT _) Uc aw ⟨⟨rfl,C.F.vw.aO (fun q _ h=>.inr h) (cG _) fun q Y U=>by rw[aM,af (fun e=>by rw[e]at Y;omega),ed U]⟩,trivial⟩)
   .show(if _ then _ else _)=0;rw[af ac];exact hP3
   .intro q Y U;show(if _ then _ else _)=0;rw[af ac];exact hl3 q Y U
   .intro q Y U;have:=hl3 q Y U;rw[aM,af (fun e=>by rw[e]at this;omega),ed ac];exact hf3 q Y U
  .have hje:j=M:=by omega
   subst hje;refine⟨rfl,eE,eE,rx hX hPt ltP gp old C hP3 hnx hf3 ac ?_ ac ⟨fn.1,fn.2.1,Um _ _ fn.2.2⟩ gn⟩;have:=Ux j f.value;simp only[Fu.sz]at fs⊢;omega
set_option maxRecDepth 100000 in
theorem zgR{lG:qC}(hG:zf2 lG){Hs:Hp}{pf lf bf:AV}{vf:qu}{pg lg bg:AV}{vg:qu}(hat:AtM i a h k lo m P Hs H O Z x y f g pf lf bf vf pg lg bg vg E)(hh:h=9):bS prog (au pls lG) 26 285 gE E H (mP lo m P Hs):=by
 obtain⟨⟨pt,b,b',hX,hPt⟩,hi,hm,loP,ltP,gp,old,fs,gs,fn,gn,hpi,k2,k6,k7,k8,k9,k27⟩:=hat;have hkeep:(au pls lG).keep 26=false:=rfl;subst hh;obtain⟨v0,v1,v2,v3,v4,rfl⟩:=dW hX.F.len;obtain⟨w0,cm,w2,w3,w4,rfl⟩:=dW hX.G.len;obtain⟨z0,z1,z2,z3,z4⟩:=ji hX.F.one;have ltA:=hX.dc;have ltF:=hX.cw;have hlo:=hX.dm;have hbb:=hX.hb;have lrf:=hX.bP;have lra:=hX.cI;have rfP:Z≠P:=fun e=>oH;have raP:O≠P:=fun e=>nJ;have hrr:=hX.ne;have lof:=hX.aK (q:=Z) ac;have loa:=hX.aK (q:=O) ac;have e1:(Z == H.next)=false:=ak ac;have e2:(Z == H.next+1)=false:=ak ac;have e3:(Z == H.next+2)=false:=ak ac;have e4:(H.next == Z)=false:=ak ac;have e5:(Z == P)=false:=ak rfP;have e6:(P == Z)=false:=ak (Ne.symm rfP);have e7:(P == H.next)=false:=ak ac;have e8:(P == H.next+1)=false:=ak ac;have e9:(O == H.next)=false:=ak ac;have e10:(O == H.next+1)=false:=ak ac;have hpr:=fE (n:=k) (m:=30) ac ac;obtain⟨M,hM⟩:∃M:Nat,bc k 30=(M:Int):=⟨(bc k 30).toNat,ac⟩;have hMl:M<30:=ac;have kp:=fun H=>jE hG.pick k 30 aH H;rw[hM]at kp;rcases hi with rfl|rfl;all_goals
  simp only[oI]at k8;first|have gf:=hX.dt|have gf:=hX.dr
  dsimp only[gE,mO,fR,lH];repeat' (first
   |(apply aj ?_;clear hK K)|apply Ry.o ?_|(apply bu (fun hb hbp=>?_) (fun hb hbp=>?_)<;>try(cases hb;done))|apply cW ?_|(apply am fun K hK=>?_)|apply dX ?_|fail)
  refine cl [2,6,7,8,9] [] 12 M (fun j E V=>∃z bf',zd3 _ z lo b b' (14+j) V O Z x y {f with body:=v9 j f.body} g pf lf bf' [v0,v1,v2,v3,v4] pg lg bg [w0,cm,w2,w3,w4]/\z P=0/\(∀q,q<H.next->pt q=0->z q=0)/\(∀q,q<H.next->pt q=0->V.get q=H.get q)) eE ⟨pt,bf,hX,hPt,fun _ _ h=>h,fun _ _ _=>rfl⟩ ?_;rintro j E V hj hcE hrH J hsI ⟨z,bf',C,I,hl3,hf3⟩;(try simp only[bC,aZ,aW,aG,Nat.reduceBEq, *]at hcE);(try simp only[aZ, *]at hrH);(try simp only[aU,bq,ce,bR,Nat.reduceAdd]at J);have hnx:H.next<=V.next:=CF
  have f1:(Z == V.next)=false:=ak ac;have f2:(Z == V.next+1)=false:=ak ac;have f3:(Z == V.next+2)=false:=ak ac;first|have gf3:=C.dt|have gf3:=C.dr
  obtain⟨o1,o2⟩:=C.F.bo.one;repeat' (first
   |(apply aj ?_;clear hK K)|apply Ry.o ?_|(apply iz ?_;first|refine bK (kp _) ?_)|(apply bu (fun hb hbp=>?_) (fun hb hbp=>?_)<;>try(cases hb;done))|apply cW ?_|(apply am fun K hK=>?_)|apply dX ?_|apply fA ?_|apply iT ?_)
  .have hlt:j<M:=by omega
   have gh0:=@zgP;repeat' (first
    |(apply aj ?_;clear hK K)|apply Rx.o ?_|apply jc ?_|(apply am fun K hK=>?_)|fail)
   refine⟨ac,a0,a0,ca,zh,?_⟩;have lrf3:=C.bP;refine⟨_,_,C.fq (H':=_) (n':=14+(j+1)) (bf':=.sl V.next 0 1 17) (v9 (j+1) f.body) ?_ ac ?_ ?_ ?_,?_,?_,?_⟩
   .simp only[bq,aU];omega
   .intro q _ U Y _;rw[aM,af Y,ed U]
   .rw[aM,ai rfl];rfl
   .refine .inr ⟨V.next,0,[[.int .i64 3,.aj [],.aj [],.int .i64 0,.int .i64 0,.int .i64 0,.aj [],.int .i64 0,.ag,.int .i64 1,.int .i64 0,.aj [],.int .i64 0,.ag,.ag,bf',.ag]],rfl,ai (ay _),bT _,Uc,aw,⟨rfl,?_⟩,trivial⟩;exact pw (n:=14+j) 3 [] [] 0 nF (pp 1 0 0 []) .ag (C.F.bo.rd.aO (fun q U Y=>⟨by show(if _ then _ else _)=_;rw[af ac];exact Y,ac⟩) (cG _) fun q U Y=>by rw[aM,af (fun e=>by rw[e]at U;omega),ed Y]) .ag
   .show(if _ then _ else _)=0;rw[af ac];exact I
   .intro q U Y;show(if _ then _ else _)=0;rw[af ac];exact hl3 q U Y
   .intro q U Y;have:=hl3 q U Y;rw[aM,af (fun e=>by rw[e]at this;omega),ed ac];exact hf3 q U Y
  .have hje:j=M:=by omega
   subst hje;refine⟨rfl,eE,eE,rx hX hPt ltP gp old C I hnx hf3 ac ?_ ac ⟨fn.1,Uo _ _ fn.2.1,fn.2.2⟩ gn⟩;have:=Uy j f.body;simp only[Fu.sz]at fs⊢;omega
end
section
def tyMuQd.tyF:=ad @dQ (ad @cr (ad @oV (ad @cK (ad @fW (ad @gh (ad @eL (ad @et (ad @dV (ad @dR (ad @dD (ad @jb (ad @jx (ad @sO (ad @eh (ad @pS (@nI))))))))))))))))
open tyMuQd
theorem KJ:∀a b:qI,cy (a++b)=cy a+cy b
 |[],b=>by rw[lL,cy];omega
 |x::a,b=>by rw[lw,cy,cy,KJ a b];omega
mutual
theorem Gn:∀(e:Ex) (z a:Int),(ge e z a).sz<=e.sz+20
 | .mk k n M O C,z,a=>by
   have m:=wa (l:=Ga) aH (bc a 6).toNat;have j:=Uz C (bc a C.length).toNat (bB (z.tdiv 9)) (bB (a.tdiv 3));rw[ge];(repeat' split)<;>simp only[Ex.sz,KJ,cy,vW,fq,ze]<;>omega
theorem Uz:∀(l:qI) (i:Nat) (z a:Int),cy (py l i z a)<=cy l+20
 |[],_,_,_=>by rw[py];omega
 |x::l,0,z,a=>by
  have:=Gn x z a;rw[py,cy,cy];omega
 |x::l,i+1,z,a=>by
  have:=Uz l i z a;rw[py,cy,cy];omega
end
mutual
theorem UA:∀(e:St) (z a:Int),(jF e z a).sz<=e.sz+40
 | .mk k nm to n e v args m els,z,a=>by
   have h1:=wa (l:=Ge) aH (bc a 6).toNat;have h2:=wa (l:=Gf) aH (bc a 5).toNat;have h3:=UB m (bc a m.length).toNat (bB (z.tdiv 13)) (bB (a.tdiv 3));have h4:=Gn e (bB (z.tdiv 13)) a;have h5:=Gn v (bB (z.tdiv 13)) a;rw[jF];generalize bc z 13=q;by_cases c0:q=0
   .rw[ai c0];simp only[St.sz,];omega
   rw[af c0];by_cases O:q=1
   .rw[ai O];simp only[St.sz,ze];omega
   rw[af O];by_cases Y:q=2
   .rw[ai Y];simp only[St.sz,ze];omega
   rw[af Y];by_cases U:q=3
   .rw[ai U];simp only[St.sz,];omega
   rw[af U];by_cases Z:q=4
   .rw[ai Z];simp only[St.sz,];omega
   rw[af Z];by_cases j:q=5
   .rw[ai j];simp only[St.sz,];omega
   rw[af j];by_cases V:q=6
   .rw[ai V];simp only[St.sz,KJ,cy,Ex.sz,vW,fq];omega
   rw[af V];by_cases M:q=7
   .rw[ai M];simp only[St.sz,cy,];omega
   rw[af M];by_cases C:q=8
   .rw[ai C];simp only[St.sz,cy,xD,bi,Ex.sz,gD,vZ,fq];omega
   rw[af C];by_cases J:q=9
   .rw[ai J];simp only[St.sz,cy,xD,bi,Ex.sz,gD,vZ,fq];omega
   rw[af J];by_cases I:q=10
   .rw[ai I];simp only[St.sz,];omega
   rw[af I];simp only[St.sz];omega
theorem UB:∀(l:qD) (i:Nat) (z a:Int),bi (pz l i z a)<=bi l+40
 |[],_,_,_=>by rw[pz];omega
 |x::l,0,z,a=>by
  have:=UA x z a;rw[pz,bi,bi];omega
 |x::l,i+1,z,a=>by
  have:=UB l i z a;rw[pz,bi,bi];omega
end
def zgS(r:Nat):el prog 24 (.sl r 0 2 2) (.int .i64 0)=some (.ptr r 0):=ax
def zgT(r:Nat):el prog 24 (.sl r 0 2 2) (.int .i64 1)=some (.ptr r 2):=ax
set_option maxRecDepth 100000 in
theorem zgU{I:qC}(hG:zf2 I){Hs:Hp}{pf lf bf:AV}{vf:qu}{pg lg bg:AV}{vg:qu}(C:AtM i a h k lo m P Hs H Y Z x y f g pf lf bf vf pg lg bg vg E)(hh:h=5):bS prog (au pls I) 26 285 gE E H (mP lo m P Hs):=by
 obtain⟨⟨pt,b,b',hX,V⟩,hi,hm,loP,U,gp,O,fs,gs,fn,gn,z,k2,k6,k7,k8,k9,k27⟩:=C;have hkeep:(au pls I).keep 26=false:=rfl;subst hh;obtain⟨v0,v1,v2,v3,v4,rfl⟩:=dW hX.F.len;obtain⟨w0,cm,w2,w3,w4,rfl⟩:=dW hX.G.len;obtain⟨z0,z1,z2,z3,z4⟩:=ji hX.F.one;have ltA:=hX.dc;have ltF:=hX.cw;have hlo:=hX.dm;have hbb:=hX.hb;have lrf:=hX.bP;have lra:=hX.cI;have M:Z≠P:=fun e=>oH;have raP:Y≠P:=fun e=>nJ;have hrr:=hX.ne;have lof:=hX.aK (q:=Z) ac;have loa:=hX.aK (q:=Y) ac;have e1:(Z == H.next)=false:=ak ac;have e2:(Z == H.next+1)=false:=ak ac;have e3:(Z == H.next+2)=false:=ak ac;have e4:(H.next == Z)=false:=ak ac;have e5:(Z == P)=false:=ak M;have e6:(P == Z)=false:=ak (Ne.symm M);have e7:(P == H.next)=false:=ak ac;have e8:(P == H.next+1)=false:=ak ac;have e9:(Y == H.next)=false:=ak ac;have e10:(Y == H.next+1)=false:=ak ac;have hga:=hX.ga;have kq:=jE hG.pick k 20 aH;have J:=jE hG.pick a 2 aH;rcases hi with rfl|rfl;all_goals
  simp only[oI]at k8;first|have gf:=hX.dt|have gf:=hX.dr
  first|(replace z:bc a 2=0:=z)|(replace z:bc a 2=1:=z)
  rw[z]at J;dsimp only[gE,mO,fR,lH];have gh0:=@zgS;have gh1:=@zgT;repeat' (first
   |(apply aj ?_;clear hK K)|apply Ry.o ?_|apply iS ?_|(apply iz ?_;first|refine bK (J _) ?_|refine bK (kq _) ?_)|(apply bu (fun hb hbp=>?_) (fun hb hbp=>?_)<;>try(cases hb;done))|apply cW ?_|(apply am fun K hK=>?_)|(apply ci 17 [(1,3),(1,5),(1,9)] fun K hK=>?_)|(apply bD ?_;try intro _)|(apply ch ?_ ?_<;>clear hK K)|apply eP ?_|apply jL rfl ?_|apply dX ?_|fail)
  .exact cn
  first
  |refine⟨rfl,eE,eE,rx hX V U gp O (hX.fu (x':=IntKind.wrap .i64 (bc k 20-1)) (y':=y) (nf:=f.name) ?_ ?_ ?_ ?_) V ?_ ?_ ac (by show f.sz<_;omega) ac fn gn⟩<;>(first|(rw[aM,ai rfl];done)|skip)
   ·simp only[bq];omega
   .intro q _ h1 j h3;rw[aM,af j]
   .rw[aM,af ac];exact hX.gf
   .simp only[bq];omega
   .intro q h1 j;rw[aM,af (fun e=>nH)]
  |refine⟨rfl,eE,eE,rx hX V U gp O (hX.fu (x':=x) (y':=IntKind.wrap .i64 (bc k 20-1)) (nf:=f.name) ?_ ?_ ?_ ?_) V ?_ ?_ ac (by show f.sz<_;omega) ac fn gn⟩<;>(first|(rw[aM,ai rfl];done)|skip)
   ·simp only[bq];omega
   .intro q _ h1 j h3;rw[aM,af j]
   .rw[aM,af ac];exact hX.gf
   .simp only[bq];omega
   .intro q h1 j;rw[aM,af (fun e=>nH)]
set_option maxRecDepth 100000 in
theorem zgV(hG:zf2 U){Hs:Hp}{pf lf bf:AV}{vf:qu}{pg lg bg:AV}{vg:qu}(O:AtM i a h k lo m P Hs H Y Z x y f g pf lf bf vf pg lg bg vg E)(hh:h=7):bS prog (au pls U) 26 285 gE E H (mP lo m P Hs):=by
 obtain⟨⟨pt,b,b',hX,V⟩,hi,hm,loP,I,gp,C,fs,gs,fn,gn,hpi,k2,k6,k7,k8,k9,k27⟩:=O;have hkeep:(au pls U).keep 26=false:=rfl;subst hh;obtain⟨v0,v1,v2,v3,v4,rfl⟩:=dW hX.F.len;obtain⟨w0,cm,w2,w3,w4,rfl⟩:=dW hX.G.len;obtain⟨z0,z1,z2,z3,z4⟩:=ji hX.F.one;have ltA:=hX.dc;have ltF:=hX.cw;have hlo:=hX.dm;have hbb:=hX.hb;have lrf:=hX.bP;have lra:=hX.cI;have z:Z≠P:=fun e=>oH;have raP:Y≠P:=fun e=>nJ;have hrr:=hX.ne;have lof:=hX.aK (q:=Z) ac;have loa:=hX.aK (q:=Y) ac;have e1:(Z == H.next)=false:=ak ac;have e2:(Z == H.next+1)=false:=ak ac;have e3:(Z == H.next+2)=false:=ak ac;have e4:(H.next == Z)=false:=ak ac;have M:(Z == P)=false:=ak z;have e6:(P == Z)=false:=ak (Ne.symm z);have e7:(P == H.next)=false:=ak ac;have e8:(P == H.next+1)=false:=ak ac;have e9:(Y == H.next)=false:=ak ac;have e10:(Y == H.next+1)=false:=ak ac;rcases hi with rfl|rfl;all_goals
  simp only[oI]at k8;first|have gf:=hX.dt|have gf:=hX.dr
  have ag:∀r,cq 5 (v0::v1::v2::v3::v4::r)=some (.agg [v0,v1,v2,v3,v4]):=fun r=>rfl;dsimp only[gE,mO,fR,lH];repeat' (first
   |(apply aj ?_;clear hK K)|apply Ry.o ?_|(apply bu (fun hb hbp=>?_) (fun hb hbp=>?_)<;>try(cases hb;done))|apply cW ?_|(apply am fun K hK=>?_)|apply dX ?_|fail)
  refine qc ?_;refine aF ?_ (zgy hG.me hG.mei (n:=14) ac hX.F.vw (by simp only[Fu.sz]at fs;omega) k a);rintro _ H5 ⟨rfl,j⟩;have hes:=Gn f.value k a;have hr5:=Gj f.value k a fn.2.2;generalize ge f.value k a=M at *;rw[j0];have gr:=(j.out Z (show ¬pt Z=b+3 by omega)).trans gf;have n5:=j.next
  dsimp only[aC];repeat' (first
   |(apply aj ?_;clear hK K)|apply Rx.o ?_|apply jc ?_|fail)
  refine⟨rfl,eE,eE,rx hX V I gp C (hX.eZ (H':=_) (n':=14) (vf':=[.int .i64 M.am,.int .i64 M.n,.aj M.name,.int .i64 M.op,.az (M.ao.map Ex.cells)]) M ?_ ac ?_ ?_ rfl rfl (KD (n:=13) M)) ?_ ?_ ?_ ac ?_ ac ⟨fn.1,fn.2.1,hr5⟩ gn⟩
  .simp only[bq];omega
  .intro q _ h1 J h3;rw[aM,af J];exact j.out q h3
  .rw[aM,ai rfl];rfl
  .show(if _ then _ else _)=0;rw[af ac];exact V
  .simp only[bq];omega
  .intro q h1 J;rw[aM,af (fun e=>by rw[e]at J;omega)];exact j.out q (show ¬pt q=b+3 by omega)
  .simp only[Fu.sz]at fs⊢;omega
end
section
def tyMuQe.tyF:=ad @dQ (ad @cr (ad @oV (ad @cK (ad @fW (ad @gh (ad @eL (ad @et (ad @dV (ad @dR (ad @dD (ad @jb (ad @jx (ad @sO (ad @eh (ad @pS (ad @u7 (@T5)))))))))))))))))
open tyMuQe
theorem UC:∀(l:qD) (i:Nat) (e:St),i<l.length->bi (l.set i e)<=bi l+e.sz
 |[],_,_,h=>by simp at h
 |x::l,0,e,_=>by rw[IF,bi,bi];omega
 |x::l,i+1,e,h=>by
  have:=UC l i e mR;rw[IG,bi,bi];omega
def zgW(e:St):b9 S (n+1) H e.cells e.cells:=(di.eV [e]).1.2
def zgX{c u w:AV}(h:dq S n H c u)(e:bY m u=w)(M:(∃k x,w=.int k x)\/(∃s,w=.aj s)\/∃l,w=.az l):AV.one c=true:=by
 cases n with
 |zero=>exact h.elim
 |succ n=>
  cases c with
  |agg I=>
   obtain⟨Z,_,rfl⟩:=h;cases m<;>rcases M with⟨_,_,rfl⟩|⟨_,rfl⟩|⟨_,rfl⟩<;>simp[bY]at e
  |a6 I=>
   obtain⟨_,rfl⟩:=h;cases m<;>rcases M with⟨_,_,rfl⟩|⟨_,rfl⟩|⟨_,rfl⟩<;>simp[bY]at e
  |_=>first|rfl|(obtain⟨_,rfl⟩:=h;cases m<;>rcases M with⟨_,_,rfl⟩|⟨_,rfl⟩|⟨_,rfl⟩<;>simp[bY]at e)
theorem UD{S:Nat->Prop}{n m:Nat}{H:Hp}:∀{I Y M:qu},cp (dq S n H) I Y->Y.map (bY m)=M->(∀w∈M,(∃k x,w=.int k x)\/(∃s,w=.aj s)\/∃l,w=.az l)->I.all AV.one=true
 |[],_,_,_,_,_=>rfl
 |c::I,u::Y,M,h,e,hw=>by
  subst e;rw[rS,zgX (m:=m) h.1 rfl (hw _ eg),UD (m:=m) h.2 rfl fun w j=>hw w (en _ j)];rfl
def zgY(x:St):∀w∈x.cells,(∃k x,w=AV.int k x)\/(∃s,w=AV.aj s)\/∃l,w=AV.az l:=by
 rw[nX];intro w M;simp only[jh]at M;rcases M with rfl|rfl|rfl|rfl|rfl|rfl|rfl|rfl|rfl|rfl|rfl|rfl|rfl|rfl|rfl|rfl|rfl<;>simp
theorem UE{S:Nat->Prop}{n:Nat}{H:Hp}:∀{rows:List qu}{l:qD},di S n H 17 rows (l.map St.cells)->rows.flatten.all AV.one=true
 |[],[],_=>rfl
 |r::rows,x::l,h=>by
  obtain⟨Y,m,j⟩:=h.1.2;rw[jl,xo,UD m (j n (ay _)) (zgY x),UE h.2];rfl
def di.dj{z:Nat}{a b:List qu}(h:di S n H z a b)(J:H.next<=H'.next)(j:∀k,S k->k<H.next->rQ (H.get k) (H'.get k)):di S n H' z a b:=cp.mono (fun x y k=>⟨k.1,k.2.frame (fun _ h=>h) J j⟩) h
set_option maxRecDepth 100000 in
theorem B3{lG:qC}(hG:zf2 lG){Hs:Hp}{ra U:Nat}{pf lf bf:AV}{vf:qu}{pg lg bg:AV}{vg:qu}(hat:AtM i a h k lo m P Hs H ra U x y f g pf lf bf vf pg lg bg vg E)(hh:12<=h/\h<=16):bS prog (au pls lG) 26 285 gE E H (mP lo m P Hs):=by
 obtain⟨⟨pt,b,b',hX,hPt⟩,hi,hm,loP,ltP,gp,old,fs,gs,fn,gn,hpi,k2,k6,k7,k8,k9,k27⟩:=hat;have hkeep:(au pls lG).keep 26=false:=rfl
 skip
 obtain⟨v0,v1,v2,v3,v4,rfl⟩:=dW hX.F.len;obtain⟨w0,cm,w2,w3,w4,rfl⟩:=dW hX.G.len;obtain⟨z0,z1,z2,z3,z4⟩:=ji hX.F.one;have ltA:=hX.dc;have ltF:=hX.cw;have hlo:=hX.dm;have hbb:=hX.hb;have lrf:=hX.bP;have lra:=hX.cI;have rfP:U≠P:=fun e=>oH;have raP:ra≠P:=fun e=>nJ;have hrr:=hX.ne;have lof:=hX.aK (q:=U) ac;have loa:=hX.aK (q:=ra) ac;have e1:(U == H.next)=false:=ak ac;have e2:(U == H.next+1)=false:=ak ac;have e3:(U == H.next+2)=false:=ak ac;have e4:(H.next == U)=false:=ak ac;have e5:(U == P)=false:=ak rfP;have V:(P == U)=false:=ak (Ne.symm rfP);have e7:(P == H.next)=false:=ak ac;have e8:(P == H.next+1)=false:=ak ac;have e9:(ra == H.next)=false:=ak ac;have e10:(ra == H.next+1)=false:=ak ac;have q1:¬h=1:=ac;have q2:¬h=2:=ac;have q3:¬h=3:=ac;have q4:¬h=4:=ac;have q5:¬h=5:=ac;have q6:¬h=6:=ac;have q7:¬h=7:=ac;have q8:¬h=8:=ac;have q9:¬h=9:=ac;have q10:¬h=10:=ac;have q11:¬h=11:=ac;have q17:¬h=17:=ac;have q18:¬h=18:=ac;obtain⟨N,hN⟩:∃N,f.body.length=N:=⟨_,rfl⟩;have hNl:N<2^30:=by have Z:=mZ f.body;simp only[Fu.sz]at fs;omega
 have hlen:∀H,gO prog H 60 bf=some (.int .i64 N):=fun H=>by have:=hX.F.bo.len (P:=prog) (H':=H) underlying60;rw[dx,hN]at this;exact this
 obtain⟨o1,o2⟩:=hX.F.bo.one;have hq2:(2:Int)≠0:=aH;have kpn:∀n:Int,(0:Int)<N->∀H,aR prog (au pls lG) 12 [.int .i64 n,.int .i64 (N:Int)] H fun v H'=>v=.int .i64 (bc n N)/\H'=H:=fun n h H=>jE hG.pick n N ac H;rcases hi with rfl|rfl;all_goals
  simp only[oI]at k8;first|have gf:=hX.dt|have gf:=hX.dr
  dsimp only[gE,mO,fR,lH];repeat' (first
   |(apply aj ?_;clear hK K)|apply Ry.o ?_|(apply iz ?_;first|refine bK (kpn _ ac _) ?_)|(apply bu (fun hb hbp=>?_) (fun hb hbp=>?_)<;>try(cases hb;done))|apply cW ?_|(apply am fun K hK=>?_)|apply dX ?_|apply fA ?_|fail)
  all_goals (try exact⟨rfl,eE,eE,uH.of hX hPt ltP gp old ac ac ac fn gn⟩)
  all_goals
   have hNp:0<N:=ac;obtain⟨O,rfl⟩:∃O,N=O+1:=⟨N-1,ac⟩;obtain⟨q0,imm0,rows,rfl,s0,Ca,g0,i0,C⟩:∃q I rows,bf=.sl q 0 (O+1) 17/\pt q=b+2/\q<H.next/\H.get q=some (.cells rows.flatten I true)/\I<=rows.flatten.length/\di (fun k=>pt k=b+2/\k≠q) 14 H 17 rows (f.body.map St.cells):=by
    rcases hX.F.bo with⟨_,e⟩|⟨q,I,rows,e,Z,j,h3,h4,h5⟩
    .have:=lN List.length e;rw[dx,hN]at this;simp at this
    .exact⟨q,I,rows,by rw[e,show rows.length=(f.body.map St.cells).length from cp.len h5,dx,hN],Z,j,h3,h4,h5⟩
   have hrl:rows.length=O+1:=by rw[show rows.length=(f.body.map St.cells).length from cp.len C,dx,hN]
   have M:=di.len C;have hfl:rows.flatten.length=(O+1)*17:=by rw[w5 M,hrl]
   have hone:=UE C;have e11:(q0 == H.next)=false:=ak ac;have hx:fk (H.alloc qf) 17 (.sl q0 0 (O+1) 17)=some (O+1,rows.flatten):=by
    have:=tR (H:=H.alloc qf) (cs:=rows.flatten) (r:=q0) (o:=0) (n:=O+1) (z:=17) (s:=17) (by rw[ed Ca];exact g0) (by simp[hfl]);rw[this,hY,gQ ac]
   have a1:=zgc (P:=prog) (t:=60) underlying60 rM tW Ss cM ax (H:=H.alloc qf) (q:=H.next) (m:=0) (k:=O) (cs:=[]) (row:=rows.flatten) (v:=.sl q0 0 (O+1) 17) fc rfl hx hone yS yS;generalize hH4:((H.alloc qf).a0 H.next).alloc (.cells ([]++rows.flatten) 0 true)=H4 at a1;have n4:H4.next=H.next+2:=by rw[<-hH4];rfl
   have o4:∀q,q<H.next->H4.get q=H.get q:=fun q Z=>by rw[<-hH4,aD,af (by simp only[tI,aU];omega),iy,af ac,ed Z]
   have g4:H4.get (H.next+1)=some (.cells rows.flatten 0 true):=by rw[<-hH4,aD,ai cM];rfl
   clear hH4;simp only[aU,bR]at a1;have gf4:=(o4 U ltF).trans gf;generalize hq:(bc (bB (a.tdiv 2)) ((O+1:Nat):Int))=qn at *;have hqr:=fE (n:=bB (a.tdiv 2)) (m:=((O+1:Nat):Int)) ac ac;rw[hq]at hqr;obtain⟨Y,rfl⟩:∃Y:Nat,qn=(Y:Int):=⟨qn.toNat,ac⟩;have hqi:Y<O+1:=ac;have hix:∀r,el prog 60 (.sl r 0 (O+1) 17) (.int .i64 (Y:Int))=some (.ptr r (Y*17)):=fun r=>by
    have:=T4 r (O+1) (n:=(Y:Int)) ac ac;rw[tT]at this;exact this
   have hrq:rows[Y]?=some rows[Y]:=bj ac;have hbq:f.body[Y]?=some f.body[Y]:=bj ac;have hag:=FY M hrq;have e12:(H.next+1 == U)=false:=ak ac;have hle:Y*17+17<=rows.flatten.length:=ac;repeat' (first
    |(apply aj ?_;clear hK K)|apply Rx.o ?_|apply jc ?_|(apply ci 50 [(3,14),(3,16),(8,14),(11,14)] fun K hK=>?_)|(apply bD ?_;try intro _)|apply eP ?_|fail)
   refine qd ?_;have hrowq:b9 (fun q=>pt q=b+2/\q≠q0) 14 H rows[Y] (f.body[Y]).cells:=(cp.get C hrq (by rw[eI,hbq];rfl)).2;generalize J:Hp.set H4 U _=H5;have n5:H5.next=H.next+2:=by rw[<-J];exact n4
   have o5:∀q,q<H.next->q≠U->H5.get q=H.get q:=fun q Z j=>by rw[<-J,aM,af j,o4 q Z]
   have g5:H5.get (H.next+1)=some (.cells rows.flatten 0 true):=by rw[<-J,aM,af ac];exact g4
   have gf5:=show H5.get U=some _ by rw[<-J,aM,ai rfl]
   have hrow5:=hrowq.aO (S':=fun q=>pt q=b+2/\q<H.next) (fun k Z j=>⟨j.1,Z⟩) (by omega:H.next<=H5.next) (fun k Z j=>o5 k j (fun e=>by rw[e]at Z;omega));have hbs:=my (dm (by omega:Y<f.body.length));refine aF ?_ (zgA hG.ms hG.msi (n:=14) ac hrow5 (by simp only[Fu.sz]at fs;omega) k a);rintro _ H6 ⟨rfl,hI⟩;have g6:=(hI.out (H.next+1) (fun h=>ac)).trans g5;have gf6:=(hI.out U (fun h=>ac)).trans gf5;have n6:=hI.next
   have hes:=UA f.body[Y] k a;have hr6:=Uk f.body[Y] k a (KH fn.2.1 _ (dm _));generalize jF f.body[Y] k a=V at *;rw[nX];dsimp only[aC];clear hfl;repeat' (first
    |apply Rx.o ?_|apply jc ?_|(apply bD ?_;try intro _)|(apply ch ?_ ?_<;>clear hK K)|apply eP ?_|apply jL rfl ?_|fail)
   .exact cn
   have hsp:=Kw (w:=[.int .i64 V.am,.aj V.name,.aj V.to,.int .i64 V.n,.int .i64 V.a8.am,.int .i64 V.a8.n,.aj V.a8.name,.int .i64 V.a8.op,.az (V.a8.ao.map Ex.cells),.int .i64 V.value.am,.int .i64 V.value.n,.aj V.value.name,.int .i64 V.value.op,.az (V.value.ao.map Ex.cells),.az (V.args.map Ex.cells),.az (V.bl.map St.cells),.az (V.bA.map St.cells)]) rfl M (i:=Y) ac;rw[HP]at hsp;generalize hH7:Hp.set H6 (H.next+1) _=H7;have n7:H7.next=H.next+2:=by rw[<-hH7,bq];omega
   have o7:∀q,q≠H.next+1->H7.get q=H6.get q:=fun q Z=>by rw[<-hH7,aM,af Z]
   have g7:H7.get (H.next+1)=some (.cells (rows.set Y V.cells).flatten 0 true):=by rw[<-hH7,aM,ai rfl,nX];exact lN (fun c=>some (HB.cells c 0 true)) hsp
   clear hH7 hsp J;refine⟨rfl,eE,eE,rx hX hPt ltP gp old (hX.fq (H':=H7) (n':=14) (bf':=.sl (H.next+1) 0 (O+1) 17) (f.body.set Y V) ?_ ac ?_ ?_ ?_) ?_ ?_ ?_ ac ?_ ac ⟨fn.1,zgx fn.2.1 hr6,fn.2.2⟩ gn⟩
   .omega
   .intro q _ Z j h3;rw[o7 q ac,hI.out q (fun h=>h3 h.1),o5 q Z j]
   .rw[o7 U ac,gf6];rfl
   .refine .inr ⟨H.next+1,0,rows.set Y V.cells,by rw[jQ,hrl],ai ac,ac,g7,cZ _,?_⟩;have hr7:di (fun k=>(if H.next<=k then b+2 else pt k)=b+2/\k≠H.next+1) 14 H7 17 rows (f.body.map St.cells):=by
     have h5:=C.aO (S':=fun k=>pt k=b+2/\k<H.next) (fun k Z j=>⟨j.1,Z⟩) (by omega:H.next<=H5.next) (fun k Z j=>o5 k j (fun e=>by rw[e]at Z;omega));have h6:=h5.dj (H':=H6) ac fun k _ _=>hI.same k;exact h6.aO (fun k Z j=>⟨by rw[af ac];exact j.1,ac⟩) ac fun k Z j=>o7 k (by have:=Z.2;omega)
    rw[wN];exact cp.set hr7 ⟨St.a9 _,zgW V⟩
   .show(if _ then _ else _)=0;rw[af ac];exact hPt
   .omega
   .intro q Z j;rw[o7 q ac,hI.out q (fun h=>ac),o5 q Z (fun e=>nH)]
   .have hss:=UC f.body Y V ac;simp only[Fu.sz]at fs⊢;omega
end
end Go.Proofs.YtpbcimfiofmoeaaGreat
