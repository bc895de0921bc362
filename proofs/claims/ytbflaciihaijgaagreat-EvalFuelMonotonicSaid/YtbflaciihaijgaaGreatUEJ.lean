/- Lemmas for the last file. -/
import Derived.Test.YtbflaciihaijgaaGreatUEI
set_option linter.all false
set_option maxHeartbeats 32000000
namespace Go.Ab
set_option maxRecDepth 20000
open Go
variable{qn:Prop}
def uW(h:qn:=by first|rfl|trivial):=h
def M6(h:qn:=by rw[List.drop_zero,List.length_take];omega):=h
def M7(h:qn:=by rw[aL,if_pos rfl];simp):=h
def UQ(h:qn:=by rw[List.flatten_append,List.length_append];omega):=h
def Ii(h:qn:=by unfold xZ;(repeat' split)<;>omega):=h
def zC:=@Int.tmod_lt_of_pos
end Go.Ab
namespace Go.Proofs.YtbflaciihaijgaaGreat
set_option maxRecDepth 20000
open Go Go.Ab Proofs.Tryz
variable(ρ:Nat->Int)
variable{l:qA}{S S':Nat->Prop}{H H':Hp}{v:AV}{w cs:qB}{m z L c q M k i:Nat}{a:List qB}{cfg:Cfg}{P:Program}{t e:TypeId}{x:Int}
section
def cX(n:Int):Prop:=-9223372036854775808<=n/\n<9223372036854775808
mutual
def kx:Ex->Prop
 | .mk _ n _ _ L=>cX n/\jA L
def jA:qM->Prop
 |[]=>True
 |e::es=>kx e/\jA es
end
theorem Ij(x:Ex):kx x↔cX x.n/\jA x.ak:=by cases x;rw[kx];rfl
mutual
def pY:St->Prop
 | .mk _ _ _ _ a v I O V=>kx a/\kx v/\jA I/\kN O/\kN V
def kN:qJ->Prop
 |[]=>True
 |x::l=>pY x/\kN l
end
theorem Ik(x:St):pY x↔kx x.bz/\kx x.value/\jA x.args/\kN x.bm/\kN x.bO:=by cases x;rw[pY];rfl
def tyG1.tyF:=ad @cG (ad @dm (ad @kJ (ad @eG (ad @jx (ad @xd (@sw))))))
open tyG1
noncomputable def UR:=qd (M:=14) f25.eq_1
noncomputable def US:=qd (M:=25) f27.eq_1
noncomputable def UT:=qd (M:=7) f59.eq_1
def cK(n m:Int):Int:=if n.tmod m<0 then cy (n.tmod m+m)else n.tmod m
def mO{n m:Int}(h:0<m)(Z:m<2^62):0<=cK n m/\cK n m<m:=by
 unfold cK;have C:=zC n h;have Y:-m<n.tmod m:=by
  have:=zC (-n) h;rw[Int.neg_tmod]at this;omega
 split
 .unfold cy;rw[vD _ ac];omega
 .omega
def tS(x:Int×Int):qB:=[.int .i64 x.1,.int .i64 x.2]
def UU(x y:Int×Int)(h:tS x=tS y):x=y:=by
 simp only[tS,eX,AV.int.injEq,aV,j6]at h;exact sK h.1 h.2
theorem ziv(x:Int×Int)(I:x.2≠0):bA prog ρ 25 (tS x) (.int .i64 (cK x.1 x.2)):=fF fit (pls:=pls) (l:=[]) trivial (.cons (.int _ _) (.cons (.int _ _) .nil)) (.int _ _) (by
 have hw:=lH 25;obtain⟨n,m⟩:=x;rw[tS];simp only[]at I⊢;refine qe hw func25 UR ?_;dsimp only[UR,qd,a1,Nat.reduceAdd];refine OP (fun hb hbp=>?_) (fun hb hbp=>?_);all_goals refine qi ?_
 all_goals (simp_all[cK];try omega))
noncomputable def wo:En:=⟨25,false,co (fun x=>x.2≠0) tS fun x=>.int .i64 (cK x.1 x.2)⟩
def Il:de prog ρ wo:=dA fun x I=>ziv ρ x I
def xV{l:qH}(L:∀Z,dU l 25 Z=wo.sp Z)(n m:Int)(Y:m≠0)(H:Hp):aR prog (aA pls l) 25 [.int .i64 n,.int .i64 m] H fun v H'=>v=.int .i64 (cK n m)/\H'=H:=
 cQ (enc:=tS) (ok:=fun x=>x.2≠0) (out:=fun x=>.int .i64 (cK x.1 x.2)) UU (x:=(n,m)) (L _) Y
def xW:qA:=[0,1,-1,2,-9223372036854775808,9223372036854775807,4294967296,-2147483648,63,64]
def jW(n I:Int):Int:=if cK n 24<10 then xW.getD (cK n 24).toNat 0 else if cK n 24<22 then cy (cK (cy (n.tdiv 24)) 17-6)else I
def ziw(H:Hp):eW prog H 27 10 [(0,.int .i64 0),(1,.int .i64 1),(2,.int .i64 (-1)),(3,.int .i64 2),(4,.int .i64 (-9223372036854775808)),(5,.int .i64 9223372036854775807),(6,.int .i64 4294967296),(7,.int .i64 (-2147483648)),(8,.int .i64 63),(9,.int .i64 64)]=some (.sl H.next 0 10 1,H.alloc (.cells (xW.map fun n=>.int .i64 n) 0 true)):=ax
def zix(x:Int×Int):bA prog ρ 27 (tS x) (.int .i64 (jW x.1 x.2)):=fF fit (pls:=pls) (l:=[wo]) ⟨Il ρ,trivial⟩ (.cons (.int _ _) (.cons (.int _ _) .nil)) (.int _ _) (by
 have hw:zd0 (aA pls [wo]) 27:=gY (fun _=>rfl) rfl;obtain⟨n,m⟩:=x;have hr:=mO (n:=n) (m:=24) ac ac;have hp:0<=cK n 24:=hr.1;rw[tS];simp only[];have J:(24:Int)≠0:=aF;refine qe hw func27 US ?_;dsimp only[US,qd,a1,Nat.reduceAdd];have O:=@ziw;repeat' (first
  |(apply ay ?_;clear hK K)|apply a9 ?_|(apply fq ?_;first|refine Rx.k (xV (fun _=>rfl) _ _ aF _) ?_)|(apply bU ?_ ?_<;>(intro hb hbp;try(cases hb;done)))|(apply az fun K hK=>?_)|fail)
 .have C:(cK n 24).toNat<10:=by omega
  have hg:xW[(cK n 24).toNat]?=some (xW.getD (cK n 24).toNat 0):=by
   rw[dC,aX (by simpa [xW]using C)];rfl
  refine OR ?_;all_goals refine qi ?_
  rw[jW,ai mX]
 .all_goals refine qi ?_
  rw[jW,ah mX,ai mX]
 .all_goals refine qi ?_
  rw[jW,ah mX,ah mX])
noncomputable def zD:En:=⟨27,false,co (fun _=>True) tS fun x=>.int .i64 (jW x.1 x.2)⟩
def UV:de prog ρ zD:=dA fun x I=>zix ρ x
def UW{l:qH}(L:∀Z,dU l 27 Z=zD.sp Z)(n m:Int)(H:Hp):aR prog (aA pls l) 27 [.int .i64 n,.int .i64 m] H fun v H'=>v=.int .i64 (jW n m)/\H'=H:=
 cQ (enc:=tS) (ok:=fun _=>True) (out:=fun x=>.int .i64 (jW x.1 x.2)) UU (x:=(n,m)) (L _) trivial
def cB(f:Int):qC:=if f=0 then [[120],[121],[105],[106]]else [[110],[105]]
def wq(f:Int):(cB f).length=4\/(cB f).length=2:=by unfold cB;split<;>simp
def ziy(H:Hp)(a b c d:qD):eW prog H 66 4 [(0,.ay a),(1,.ay b),(2,.ay c),(3,.ay d)]=some (.sl H.next 0 4 1,H.alloc (.cells [.ay a,.ay b,.ay c,.ay d] 0 true)):=ax
def DV(H:Hp)(a b:qD):eW prog H 66 2 [(0,.ay a),(1,.ay b)]=some (.sl H.next 0 2 1,H.alloc (.cells [.ay a,.ay b] 0 true)):=ax
theorem ziz(f:Int):bA prog ρ 59 [.int .i64 f] (gV (cB f)):=xu (m:=3) (cfg:=aA pls []) fit (rG ρ) (fun f I r h=>by simp[aA,dU]at h) (.cons (.int _ _) .nil) (by
 have hw:=lH 59;refine qe hw func59 UT ?_;dsimp only[UT,qd,a1,Nat.reduceAdd];have O:=@ziy;have V:=@DV;refine OP (fun hb hbp=>?_) (fun hb hbp=>?_)
 .all_goals refine qi ?_
  rw[cB,ai mX];rfl
 .all_goals refine qi ?_
  rw[cB,ah mX];rfl)
noncomputable def Im:En:=⟨59,false,co (fun _=>True) (fun n:Int=>[.int .i64 n]) fun f=>gV (cB f)⟩
def ziA:de prog ρ Im:=dA fun x I=>ziz ρ x
def UX{l:qH}(L:∀m,dU l 59 m=Im.sp m)(f:Int)(H:Hp):aR prog (aA pls l) 59 [.int .i64 f] H fun v H'=>v=gV (cB f)/\H'=H:=
 cQ (enc:=fun n:Int=>[.int .i64 n]) (ok:=fun _=>True) (out:=fun f=>gV (cB f)) Ty (x:=f) (L _) trivial
end
section
def tyG2.tyF:=ad @cG (ad @ey (@AE))
open tyG2
def jm(S:Nat->Prop)(n:Nat)(H:Hp)(v w:AV):Prop:=∃u,dc S n H v u/\∀m,n<=m->cW m u=w
def cY(S:Nat->Prop)(n:Nat)(H:Hp)(cs ws:qB):Prop:=∃Z,bN (dc S n H) cs Z/\∀m,n<=m->Z.map (cW m)=ws
def cY.frame(hS:∀k,S k->S' k){n:Nat}{v:qB}(h:cY S n H v w)(J:H.next<=H'.next)(z:∀k,S k->k<H.next->uL (H.get k) (H'.get k)):cY S' n H' v w:=by
 obtain⟨u,j,m⟩:=h;exact⟨u,j.mono fun a b k=>k.frame hS J z,m⟩
def cY.keep(hS:∀k,S k->S' k){n:Nat}{v:qB}(h:cY S n H v w)(J:H.next<=H'.next)(z:∀k,S k->k<H.next->H'.get k=H.get k):cY S' n H' v w:=h.frame hS J fun k j m=>.inl (z k j m).symm
def jm.up{n:Nat}{w:AV}(h:jm S n H v w)(Y:n<=m):jm S m H v w:=by
 obtain⟨u,j,Z⟩:=h;exact⟨u,j.up Y,fun k z=>Z k ac⟩
def cY.up{n:Nat}{v:qB}(h:cY S n H v w)(Y:n<=m):cY S m H v w:=by
 obtain⟨u,j,Z⟩:=h;exact⟨u,j.mono fun a b k=>k.up Y,fun k z=>Z k ac⟩
def cY.nil{n:Nat}:cY S n H [] []:=⟨[],trivial,fun _ _=>rfl⟩
def cY.cons{n:Nat}{w:AV}{ws:qB}(h:jm S n H v w)(k:cY S n H cs ws):cY S n H (v::cs) (w::ws):=by
 obtain⟨u,j,Z⟩:=h;obtain⟨V,C,O⟩:=k;exact⟨u::V,⟨j,C⟩,fun m Y=>by rw[eC,Z m Y,O m Y]⟩
def cY.append{S:Nat->Prop}{n:Nat}{H:Hp}:∀{a b c d:qB},cY S n H a b->cY S n H c d->cY S n H (a++c) (b++d)
 |a,b,c,d,⟨u,j,Z⟩,⟨v,C,V⟩=>⟨u++v,j.append C,fun m Y=>by rw[rF,Z m Y,V m Y]⟩
def jm.dE{n:Nat}(h:Sn v)(z:∀m,cW m v=v):jm S (n+1) H v v:=⟨v,xE h,fun m _=>z m⟩
theorem jm.int{n:Nat}(k:IntKind)(x:Int):jm S (n+1) H (.int k x) (.int k x):=.dE ⟨.int _ _,trivial⟩ fun m=>by cases m<;>rfl
theorem jm.ay{n:Nat}(s:qD):jm S (n+1) H (.ay s) (.ay s):=.dE ⟨.ay _,trivial⟩ fun m=>by cases m<;>rfl
def jm.ao{n:Nat}:jm S (n+1) H .ao (.aE []):=⟨.ao,xE ⟨.ao,trivial⟩,fun m Y=>by
 obtain⟨m,rfl⟩:∃k,m=k+1:=⟨m-1,ac⟩;rfl⟩
def fZ(S:Nat->Prop)(n:Nat)(H:Hp)(z:Nat):List qB->List qB->Prop:=bN fun a b=>a.length=z/\cY S n H a b
theorem fZ.dA{S:Nat->Prop}{n z:Nat}{H:Hp}:∀{a b:List qB},fZ S n H z a b->∃u,bN (bN (dc S n H)) a u/\(∀m,n<=m->u.map (List.map (cW m))=b)/\∀x∈a,x.length=z
 |[],[],_=>⟨[],trivial,fun _ _=>rfl,aB⟩
 |x::a,y::b,⟨⟨hz,v,h1,h2⟩,h⟩=>by
  obtain⟨u,C,Z,V⟩:=fZ.dA (a:=a) (b:=b) h;exact⟨v::u,⟨h1,C⟩,fun m Y=>by rw[eC,h2 m Y,Z m Y],fun q J=>by
   rcases eJ.1 J with rfl|J
   .exact hz
   .exact V q J⟩
def jm.rows{n:Nat}{r imm:Nat}{tip:Bool}{b:List qB}(hS:S r)(hr:r<H.next)(hg:H.get r=some (.cells a.flatten imm tip))(O:imm<=a.flatten.length)(h:fZ S n H z a b):jm S (n+1) H (.sl r 0 a.length z) (.aE b):=by
 obtain⟨u,j,Y,C⟩:=fZ.dA h;refine⟨.aE u,dc.rows hS hr hg O C j,fun m V=>?_⟩;obtain⟨m,rfl⟩:∃k,m=k+1:=⟨m-1,ac⟩;show AV.aE (u.map fun Z=>Z.map (cW m))=_;rw[<-Y m ac]
def xX:=@jm.rows
def fZ.frame(hS:∀k,S k->S' k){n:Nat}{b:List qB}(h:fZ S n H z a b)(J:H.next<=H'.next)(Z:∀k,S k->k<H.next->H'.get k=H.get k):fZ S' n H' z a b:=bN.mono (fun x y k=>⟨k.1,k.2.keep hS J Z⟩) h
def fZ.up{n:Nat}{b:List qB}(h:fZ S n H z a b)(Y:n<=m):fZ S m H z a b:=bN.mono (fun x y k=>⟨k.1,k.2.up Y⟩) h
def cY.ek{n:Nat}(s:qD):cY S (n+1) H [.ay s] [.ay s]:=.cons (.ay s) .nil
theorem fZ.ek{S:Nat->Prop}{n:Nat}{H:Hp}:∀l:qC,fZ S (n+1) H 1 (l.map fun s=>[AV.ay s]) (l.map fun s=>[AV.ay s])
 |[]=>trivial
 |a::l=>⟨⟨rfl,cY.ek a⟩,fZ.ek l⟩
def DW{n:Nat}(k Y o:Int)(s:qD){kv:AV}{V:qM}(h:jm S (n+1) H kv (.aE (V.map Ex.cells))):cY S (n+1) H [.int .i64 k,.int .i64 Y,.ay s,.int .i64 o,kv] (Ex.mk k Y s o V).cells:=by
 rw[tx];exact .cons (.int _ _) (.cons (.int _ _) (.cons (.ay _) (.cons (.int _ _) (.cons h .nil))))
def xY{n:Nat}(k Y o:Int)(s:qD):cY S (n+1) H [.int .i64 k,.int .i64 Y,.ay s,.int .i64 o,.ao] (Ex.mk k Y s o []).cells:=DW k Y o s .ao
def bO:qA->Int×qA
 |[]=>(0,[])
 |a::l=>(a,l)
def ziB(lo:Nat)(H:Hp)(r:Nat)(v:AV)(L:qA):Prop:=(v=.aE []/\L=[])\/∃b Z O Y,v=.sl b Z L.length 1/\H.get b=some (.cells O Y true)/\O.drop Z=L.map (fun n=>AV.int .i64 n)/\b≠r/\b<lo
def jL(lo:Nat)(H:Hp)(r:Nat)(L:qA)(c:Int):Prop:=r<lo/\lo<=H.next/\∃v,H.get r=some (.cells [v,.int .i64 c] 0 true)/\ziB lo H r v L
def jL.keep{lo:Nat}{r:Nat}{L:qA}{c:Int}(h:jL lo H r L c)(hn:H.next<=H'.next)(hg:∀k,k<lo->H'.get k=H.get k):jL lo H' r L c:=by
 obtain⟨V,J,v,j,m⟩:=h;refine⟨V,ac,v,by rw[hg _ V];exact j,?_⟩;rcases m with m|⟨b,Z,I,Y,C,z,e3,e4,O⟩
 .exact .inl m
 .exact .inr ⟨b,Z,I,Y,C,by rw[hg _ O];exact z,e3,e4,O⟩
noncomputable def Be:=qd (M:=25) f32.eq_1
def In(j:zd0 cfg 32){lo:Nat}{r:Nat}{L:qA}{c:Int}(h:jL lo H r L c)(hL:L.length<2^60):
 aR prog cfg 32 [.ptr r 0] H fun v H'=>v=.int .i64 (bO L).1/\jL lo H' r (bO L).2 c/\H'.next=H.next/\∀k,k≠r->H'.get k=H.get k:=by
 obtain⟨C,Y,v,h1,h2⟩:=h;rcases h2 with⟨rfl,rfl⟩|⟨b,Z,z,O,rfl,e2,e3,m,e5⟩
 .refine qe j func32 Be ?_;dsimp only[Be,qd,a1,Nat.reduceAdd];refine OQ (fun hb hbp=>?_);all_goals refine qi ?_
  exact⟨uW,⟨C,Y,_,h1,.inl ⟨rfl,rfl⟩⟩,uW,fun _ _=>uW⟩
 .cases L with
  |nil=>
   refine qe j func32 Be ?_;dsimp only[Be,qd,a1,Nat.reduceAdd];refine OQ (fun hb hbp=>?_);all_goals refine qi ?_
   exact⟨uW,⟨C,Y,_,h1,.inr ⟨b,Z,z,O,rfl,e2,e3,m,e5⟩⟩,uW,fun _ _=>uW⟩
  |cons a L=>
   have hg:z[Z]?=some (.int .i64 a):=by
    have:=pC (fun l=>l[0]?) e3;simpa using this
   have hd:z.drop (Z+1)=L.map (fun n=>AV.int .i64 n):=by
    have:=pC (List.drop 1) e3;rw[List.drop_drop]at this;simpa using this
   have I:0<L.length+1:=ac;have V:jZ prog 26 (.sl b Z (L.length+1) 1) (some (.int .i64 1)) none=if L=[]then some (.aE [])else some (.sl b (Z+1) L.length 1):=by
    simp only[jZ,underlying26,jI,jc];by_cases J:L=[]
    .subst J;rfl
    .have:0<L.length:=List.length_pos_iff.2 J;rw[ah J,ai ⟨ac,aG _,trivial⟩,ah ac];rfl
   have hne:¬(((L.length+1:Nat):Int)=0):=ac;have hrb:(b == r)=false:=aZ m;refine qe j func32 Be ?_;dsimp only[Be,qd,a1,Nat.reduceAdd];by_cases J:L=[]
   .subst J;have hsl':jZ prog 26 (.sl b Z 1 1) (some (.int .i64 1)) none=some (.aE []):=V;have hne':¬(((1:Nat):Int)=0):=aF;have hp':0<1:=aF;clear V hne I;refine BS (fun hb hbp=>?_);all_goals refine qi ?_
    refine⟨uW,⟨C,Y,_,iW,.inl ⟨rfl,rfl⟩⟩,uW,fun k hk=>JR⟩
   .rw[ah J]at V;refine BS (fun hb hbp=>?_);all_goals refine qi ?_
    refine⟨uW,⟨C,Y,_,by rw[aQ,ai rfl];rfl,.inr ⟨b,Z+1,z,O,rfl,by rw[aQ,ah m];exact e2,hd,m,e5⟩⟩,uW,fun k hk=>JR⟩
end
variable{rows:List qB}
section
def cY.bC{n:Nat}{v:qB}(h:cY S n H v w)(hS:∀k,k<H.next->S k->S' k)(J:H.next<=H'.next)(z:∀k,S k->k<H.next->H'.get k=H.get k):cY S' n H' v w:=by
 obtain⟨u,j,m⟩:=h;exact⟨u,j.mono fun a b k=>k.dx hS J fun q C Z=>.inl (z q C Z).symm,m⟩
def fZ.bC{n:Nat}{b:List qB}(h:fZ S n H z a b)(hS:∀k,k<H.next->S k->S' k)(J:H.next<=H'.next)(Z:∀k,S k->k<H.next->H'.get k=H.get k):fZ S' n H' z a b:=bN.mono (fun x y k=>⟨k.1,k.2.bC hS J Z⟩) h
theorem fZ.len{S:Nat->Prop}{n z:Nat}{H:Hp}:∀{a b:List qB},fZ S n H z a b->∀x∈a,x.length=z
 |[],[],_,x,I=>by simp at I
 |y::a,w::b,h,x,I=>by
  rcases eJ.1 I with rfl|I
  .exact h.1.1
  .exact fZ.len h.2 x I
def eN(S:Nat->Prop)(n:Nat)(H:Hp)(z:Nat)(v:AV)(ws:List qB):Prop:=
 (v=.ao/\ws=[])\/∃q Y rows,v=.sl q 0 rows.length z/\S q/\q<H.next/\H.get q=some (.cells rows.flatten Y true)/\Y<=rows.flatten.length/\fZ (fun k=>S k/\k≠q) n H z rows ws
theorem eN.rd{n:Nat}{ws:List qB}(h:eN S n H z v ws):jm S (n+1) H v (.aE ws):=by
 rcases h with⟨rfl,rfl⟩|⟨q,Y,rows,rfl,j,m,C,V,O⟩
 .exact .ao
 .exact .rows j m C V (O.frame (fun k Z=>Z.1) (aG _) fun _ _ _=>rfl)
def eN.up{n:Nat}{ws:List qB}(h:eN S n H z v ws)(Z:n<=m):eN S m H z v ws:=by
 rcases h with h|⟨q,Y,rows,e,j,V,C,O,L⟩
 .exact .inl h
 .exact .inr ⟨q,Y,rows,e,j,V,C,O,fZ.up L Z⟩
def eN.keep{n:Nat}{ws:List qB}(h:eN S n H z v ws)(hS:∀k,k<H.next->S k->S' k)(V:H.next<=H'.next)(Z:∀k,S k->k<H.next->H'.get k=H.get k):eN S' n H' z v ws:=by
 rcases h with h|⟨q,Y,rows,e,j,m,C,h4,h5⟩
 .exact .inl h
 .exact .inr ⟨q,Y,rows,e,hS q m j,ac,by rw[Z q j m];exact C,h4,h5.bC (fun k O J=>⟨hS k O J.1,J.2⟩) V fun k L I=>Z k L.1 I⟩
def eN.one{S:Nat->Prop}{n:Nat}{H:Hp}{z:Nat}{v:AV}{ws:List qB}(h:eN S n H z v ws):AV.one v=true/\v.cells=[v]:=by
 rcases h with⟨rfl,rfl⟩|⟨q,Y,rows,rfl,_⟩<;>exact⟨rfl,rfl⟩
def eN.len(m:P.underlying t=some (.slice e)){n:Nat}{ws:List qB}(h:eN S n H z v ws):jP P H' t v=some (.int .i64 ws.length):=by
 rcases h with⟨rfl,rfl⟩|⟨q,Y,rows,rfl,j,V,C,O,Z⟩
 .exact Gv m
 .rw[CI m,show rows.length=ws.length from bN.len Z]
theorem eN.push{b:Nat}{zz:qB}(ht:P.underlying t=some (.slice e))(hs:bp P e=some z)(hb:cT P e=some b)(hz:cC P e=some zz)(j:zz.length=z)(Z:jF P t=true)
 {lo n:Nat}{ws:List qB} (h:eN (fun k=>lo<=k) n H z v ws) (hlo:lo<=H.next) {r imm:Nat}{row:qB} (hg:H.get r=some (.cells row imm true)) (I:row.length=z) (O:row.all AV.one=true)
 (hw:cY (fun k=>lo<=k/\∀o m J,v≠.sl k o m J) n H row w) (hb1:(ws.length+1)*b<=ej) (hb2:ws.length+1<=ej) :
 ∃v' H',dr P false H t t v (.sl r 0 1 z)=some (v',H')/\eN (fun k=>lo<=k) n H' z v' (ws++[w])/\H'.next=H.next+1/\(∀k,k<H.next->(∀o m J,v≠.sl k o m J)->H'.get k=H.get k)/\∀k o m J,v'=.sl k o m J->k=H.next:=by
 have hx:gg H z (.sl r 0 1 z)=some (1,row):=by
  have:=uC (H:=H) (r:=r) (o:=0) (n:=1) (z:=z) (s:=z) hg M6;rw[this,gm,je ac]
 rcases h with⟨rfl,rfl⟩|⟨q,Y,rows,rfl,h1,h2,h3,h4,h5⟩
 .refine⟨.sl H.next 0 1 z,H.alloc (.cells row 0 true),append_nil ht hs hb hz Z hx O j (by simpa using hb1) (by simpa using hb2),.inr ⟨H.next,0,[row],rfl,hlo,cn _,M7,aB,⟨⟨I,hw.bC (fun k h1 h2=>⟨h2.1,ac⟩) (dg _) fun k h1 h2=>dT⟩,trivial⟩⟩,rfl,fun k hk _=>dT,fun k o m J e=>?_⟩;simp only[AV.sl.injEq]at e;exact e.1.symm
 .have hrl:=Dv (fZ.len h5);have hwl:rows.length=ws.length:=bN.len h5;have htr:iM false H z (.sl q 0 rows.length z)=H:=by
   unfold iM;simp only[h3,bR];have:Nat.blt (rows.length*z) rows.flatten.length=false:=by
    cases hb:Nat.blt (rows.length*z) rows.flatten.length with
    |false=>rfl
    |true=>rw[ur]at hb;omega
   simp only[mJ,gW,this,nh]
  refine⟨.sl H.next 0 (rows.length+1) z,(H.bh q).alloc (.cells (rows.flatten++row) (Y-0) true),?_,.inr ⟨H.next,Y-0,rows++[row],aB,hlo,cn _,?_,UQ,?_⟩,rfl,fun k hk hno=>?_,fun k o m J e=>?_⟩
  .simp only[dr,ht,hs,hb,hz,Z,hx,O,htr,j,sC,dG,oD,h3,bR,gm,dV,fK];rw[ai ⟨by rw[hwl];exact hb1,by rw[hwl];exact hb2,ac,trivial,h4⟩]
  .show((H.bh q).alloc _).get (H.bh q).next=_
   rw[aL,ai rfl];simp
  .have L:∀k,k<H.next->k≠q->((H.bh q).alloc (.cells (rows.flatten++row) (Y-0) true)).get k=H.get k:=fun k C V=>by rw[aL,ah rT,jH,ah V]
   refine bN.append (h5.bC (fun k C V=>⟨V.1,ac⟩) (dg _) fun k C V=>L k V C.2) ⟨⟨I,hw.bC (fun k C V=>⟨V.1,ac⟩) (dg _) fun k C V=>L k V fun e=>C.2 0 rows.length z oF⟩,trivial⟩
  .rw[aL,ah rT,jH,ah (fun e=>hno 0 rows.length z oF)]
  .simp only[AV.sl.injEq]at e;exact e.1.symm
def ziC(h:∀r∈rows,r.length=z):gg H z (.aE rows)=some (rows.length,rows.flatten):=by
 simp only[gg];rw[ai (by rw[js];intro r hr;simp[h r hr])]
def cY.ar{n:Nat}(x:Ar):cY S (n+1) H x.cells x.cells:=.cons (.ay _) (.cons (.int _ _) .nil)
theorem UY{S:Nat->Prop}{n:Nat}{H:Hp}:∀l:qT,fZ S (n+1) H 2 (l.map Ar.cells) (l.map Ar.cells)
 |[]=>trivial
 |a::l=>⟨⟨rfl,cY.ar a⟩,UY l⟩
theorem UZ:∀l:qT,(l.map Ar.cells).flatten.all AV.one=true
 |[]=>rfl
 |a::l=>by rw[eC,pF,J9,a.one,UZ l];rfl
theorem ziD(m:Nat)(k:IntKind)(n:Int):cW m (.int k n)=.int k n:=by cases m<;>rfl
theorem ziE(m:Nat)(s:qD):cW m (.ay s)=.ay s:=by cases m<;>rfl
def Ar.wk(m:Nat)(x:Ar):x.cells.map (cW m)=x.cells:=by
 rw[Ar.aZ];simp only[eC,oZ,ziE,ziD]
theorem ziF{J:Type}{f:J->qB}(h:∀m x,(f x).map (cW m)=f x)(l:List J)(m:Nat):cW m (.aE (l.map f))=.aE (l.map f):=by
 cases m with
 |zero=>rfl
 |succ m=>
  simp only[cW,Gf];have:(fun Z=>List.map (cW m) Z) ∘ f=f:=funext fun y=>h m y;rw[this]
def jm.agg{n:Nat}{ws:qB}(h:cY S n H cs ws):jm S (n+1) H (.agg cs) (.agg ws):=by
 obtain⟨Z,j,Y⟩:=h;refine⟨.agg Z,⟨Z,j,rfl⟩,fun m V=>?_⟩;obtain⟨m,rfl⟩:∃k,m=k+1:=⟨m-1,ac⟩;show AV.agg (Z.map (cW m))=_;rw[Y m ac]
theorem U0{n:Nat}{imm:Nat}{tip:Bool}(l:qA)(hS:S q)(J:q<H.next)(hg:H.get q=some (.cells (l.map fun n=>.int .i64 n) imm tip))(O:imm<=l.length):jm S (n+2) H (.sl q 0 l.length 1) (.aE (l.map fun n=>[.int .i64 n])):=by
 have z:(l.map fun n=>[AV.int .i64 n]).flatten=l.map fun n=>AV.int .i64 n:=by
  clear hg O;induction l with
  |nil=>rfl
  |cons a l ih=>rw[eC,pF,ih];rfl
 have hr:∀l:qA,fZ S (n+1) H 1 (l.map fun n=>[AV.int .i64 n]) (l.map fun n=>[AV.int .i64 n]):=fun l=>by
  induction l with
  |nil=>trivial
  |cons a l ih=>exact⟨⟨rfl,.cons (.int _ _) .nil⟩,ih⟩
 have:=xX (n:=n+1) (a:=l.map fun n=>[AV.int .i64 n]) (imm:=imm) (tip:=tip) hS J (by rw[z];exact hg) (by rw[z,dk];exact O) (hr l);rw[dk]at this;exact this
def M8(fit:Fit prog){ρ:Nat->Int}(J:rA cfg.cS ρ)(L:∀f args r,cfg.call f args=some r->bA prog ρ f args r){g:FuncId}{args:qB}{r:AV}{n:Nat}
 (Z:iD args) (h:aR prog cfg g args bZ fun v H'=>∃m u,iceV H' m v=some u/\cW n u=r):bA prog ρ g args r:=by
 unfold aR at h;obtain⟨v,H',j,m,u,Y,C⟩:=h;refine zgg n (xu (m:=m) fit J L Z ?_) C;unfold aR;exact⟨v,H',j,Y⟩
theorem ziG{b:Nat}{zz:qB}(ht:P.underlying t=some (.slice e))(hs:bp P e=some z)(hb:cT P e=some b)(hz:cC P e=some zz)(V:zz.length=z)(Z:jF P t=true)
 {n:Nat}{ws:List qB} (h:eN S n H z v ws) (j:∀k,k<H.next->S k->S' k) (hN:S' H.next) {r imm:Nat}{row:qB} (hg:H.get r=some (.cells row imm true)) (hrow:row.length=z) (I:row.all AV.one=true)
 (O:(ws.length+1)*b<=ej) (L:ws.length+1<=ej) :
 ∃H' rows Y,dr P false H t t v (.sl r 0 1 z)=some (.sl H.next 0 (ws.length+1) z,H')/\rows.length=ws.length/\(∀x∈rows,x.length=z)/\H'.get H.next=some (.cells (rows.flatten++row) Y true)/\Y<=rows.flatten.length/\H'.next=H.next+1/\(∀k,k<H.next->(∀o m z',v≠.sl k o m z')->H'.get k=H.get k) /\
  fZ (fun k=>S' k/\k≠H.next) n H' z rows ws:=by
 have hx:gg H z (.sl r 0 1 z)=some (1,row):=by
  have:=uC (H:=H) (r:=r) (o:=0) (n:=1) (z:=z) (s:=z) hg M6;rw[this,gm,je ac]
 rcases h with⟨rfl,rfl⟩|⟨q,Y,rows,rfl,h1,h2,h3,h4,J⟩
 .exact⟨H.alloc (.cells row 0 true),[],0,append_nil ht hs hb hz Z hx I V yB wV,rfl,aB,M7,eR _,rfl,fun k hk _=>dT,trivial⟩
 .have hrl:=Dv (fZ.len J);have C:rows.length=ws.length:=bN.len J;have htr:iM false H z (.sl q 0 rows.length z)=H:=by
   unfold iM;simp only[h3,bR];have:Nat.blt (rows.length*z) rows.flatten.length=false:=by
    cases hb:Nat.blt (rows.length*z) rows.flatten.length with
    |false=>rfl
    |true=>rw[ur]at hb;omega
   simp only[mJ,gW,this,nh]
  refine⟨(H.bh q).alloc (.cells (rows.flatten++row) (Y-0) true),rows,Y-0,?_,C,fZ.len J,?_,ac,rfl,fun k hk hno=>?_,?_⟩
  .simp only[dr,ht,hs,hb,hz,Z,hx,I,htr,V,sC,dG,oD,h3,bR,gm,dV,fK];rw[ai ⟨by rw[C];exact O,by rw[C];exact L,ac,trivial,h4⟩,C]
  .show((H.bh q).alloc _).get (H.bh q).next=_
   rw[aL,ai rfl]
  .rw[aL,ah rT,jH,ah (fun e=>hno 0 rows.length z oF)]
  .exact J.bC (fun k h6 h7=>⟨j k h6 h7.1,ac⟩) (dg _) fun k h6 h7=>by rw[aL,ah rT,jH,ah h6.2]
def eN.of{n imm:Nat}{ws:List qB}{row:qB}(hS:S q)(J:q<H.next)(Z:∀x∈rows,x.length=z)(I:row.length=z)(hg:H.get q=some (.cells (rows.flatten++row) imm true))(O:imm<=rows.flatten.length)(hr:fZ (fun k=>S k/\k≠q) n H z rows ws)(j:cY (fun k=>S k/\k≠q) n H row w):eN S n H z (.sl q 0 (ws.length+1) z) (ws++[w]):=by
 have L:rows.length=ws.length:=bN.len hr;exact .inr ⟨q,imm,rows++[row],by rw[fx,L];rfl,hS,J,by rw[hg];simp,UQ,hr.append ⟨⟨I,j⟩,trivial⟩⟩
def Io{n:Nat}{r:Nat}(l:qC)(hS:S r)(hr:r<H.next)(hg:H.get r=some (.cells (l.map .ay) 0 true)):eN S (n+1) H 1 (.sl r 0 l.length 1) (l.map fun s=>[AV.ay s]):=
 .inr ⟨r,0,l.map fun s=>[AV.ay s],by rw[dk],hS,hr,by rw[Ho];exact hg,eR _,fZ.ek l⟩
structure FnL (pt:Nat->Nat) (b n:Nat) (H:Hp) (f:Fu) (p l bo:AV) (v:qB):Prop where
 len:v.length=5
 one:v.all AV.one=true
 ps:eN (fun q=>pt q=b) n H 1 p (f.params.map fun s=>[AV.ay s])
 ls:eN (fun q=>pt q=b+1) n H 1 l (f.aK.map fun s=>[AV.ay s])
 bo:eN (fun q=>pt q=b+2) n H 17 bo (f.body.map St.cells)
 vw:cY (fun q=>pt q=b+3) n H v f.value.cells
def Ip(nm:qD)(p l m:AV)(v:qB):qB:=[.ay nm,p,l,m]++v
structure ProgL (pt:Nat->Nat) (n:Nat) (H:Hp) (ra rf:Nat) (x y:Int) (f g:Fu) (pf lf bf:AV) (vf:qB) (pg lg bg:AV) (vg:qB):Prop where
 ga:H.get ra=some (.cells [.ay [97],.int .i64 x,.ay [98],.int .i64 y] 0 true)
 gf:H.get rf=some (.cells (Ip f.name pf lf bf vf++Ip g.name pg lg bg vg) 0 true)
 ltA:ra<H.next
 ltF:rf<H.next
 lra:pt ra=1
 lrf:pt rf=2
 F:FnL pt 3 n H f pf lf bf vf
 G:FnL pt 7 n H g pg lg bg vg
def xZ(M a b c q:Nat):Nat:=if q<=M then 0 else if q=M+1 then 1 else if q=M+7 then 2 else if q=M+3 then 3 else if q=M+4 then 4 else if q=M+5 then 7 else if q=M+6 then 8 else if q<a then 5 else if q<b then 6 else if q<c then 9 else 10
def ziH{a b:Nat}(h:M+8<=q)(j:q<a):xZ M a b c q=5:=Ii
def ziI{a b:Nat}(h:M+8<=q)(j:a<=q)(m:q<b):xZ M a b c q=6:=Ii
def ziJ{a b:Nat}(h:M+8<=q)(L:a<=q)(j:b<=q)(m:q<c):xZ M a b c q=9:=Ii
def ziK{a b:Nat}(h:M+8<=q)(L:a<=q)(j:b<=q)(m:c<=q):xZ M a b c q=10:=Ii
def M9{b:Nat}{zz:qB}(ht:P.underlying t=some (.slice e))(hs:bp P e=some z)(hb:cT P e=some b)(hz:cC P e=some zz)(V:zz.length=z)(Y:jF P t=true)
 {n:Nat}{ws:List qB} (h:eN S n H z v ws) (J:∀k,k<H.next->S k->S' k) (hN:S' H.next) {r imm:Nat}{row:qB} (hg:H.get r=some (.cells row imm true)) (I:row.length=z) (Z:row.all AV.one=true)
 (hw:cY (fun k=>S' k/\∀o m j,v≠.sl k o m j) n H row w) (O:(ws.length+1)*b<=ej) (L:ws.length+1<=ej) :
 ∃H',dr P false H t t v (.sl r 0 1 z)=some (.sl H.next 0 (ws.length+1) z,H')/\eN S' n H' z (.sl H.next 0 (ws.length+1) z) (ws++[w])/\H'.next=H.next+1/\(∀k,k<H.next->(∀o m j,v≠.sl k o m j)->H'.get k=H.get k):=by
 obtain⟨H',rows,imm',aI,a6,cp,dO,cI,eO,nN,sZ⟩:=ziG (P:=P) ht hs hb hz V Y h J hN hg I Z O L;refine⟨H',aI,?_,eO,nN⟩;exact eN.of hN ac cp I dO cI sZ (hw.bC (fun k h1 C=>⟨C.1,ac⟩) ac fun k h1 C=>nN k C h1.2)
def ziL{J:Type}{s:List J}(h:s.length=3):∃a b c,s=[a,b,c]:=by
 match s,h with
 |[a,b,c],_=>exact⟨a,b,c,rfl⟩
def ziM(H:Hp)(L:cs.length=3)(I:cs.all AV.one=true):eW prog H 42 1 [(0,.agg cs)]=some (.sl H.next 0 1 3,H.alloc (.cells cs 0 true)):=by
 obtain⟨a,b,c,rfl⟩:=ziL L;kernel_rfl
theorem ziN(a b c:AV):cr 3 [a,b,c]=some (.agg [a,b,c]):=rfl
def fZ.fv{n:Nat}{b:List qB}(h:fZ S n H z a b)(J:H.next<=H'.next)(Z:∀k,S k->k<H.next->uL (H.get k) (H'.get k)):fZ S n H' z a b:=bN.mono (fun x y k=>⟨k.1,k.2.frame (fun _ q=>q) J Z⟩) h
def eN.fv{n:Nat}{ws:List qB}(h:eN S n H z v ws)(J:H.next<=H'.next)(V:∀k,S k->k<H.next->uL (H.get k) (H'.get k)):eN S n H' z v ws:=by
 rcases h with h|⟨q,Y,rows,e,Z,h2,O,L,h5⟩
 .exact .inl h
 .have I:=h5.fv J fun k m hl=>V k m.1 hl;rcases V q Z h2 with C|⟨cs,i,j,tip,C,e2,e3⟩
  .exact .inr ⟨q,Y,rows,e,Z,ac,by rw[<-C];exact O,L,I⟩
  .rw[O]at C;simp only[am,HB.cells.injEq]at C;obtain⟨rfl,rfl,rfl⟩:=C;exact .inr ⟨q,j,rows,e,Z,ac,e2,e3 L,I⟩
structure Lx where
 p:Pr
 b:Nat
 ra:Nat
 rf:Nat
 rt:Nat
 rn:Nat
 ae:List (aY×Int)
 fe:List (aY×Int)
 ne:List (aY×Int)
structure Sm (n:Nat) (H H':Hp):Prop where
 get:∀k,k<n->H'.get k=H.get k
section
variable {X:Lx} {H H':Hp} {S:Nat -> Prop} {s:Bd} {lv vv:AV}
end
namespace tyLoB
end tyLoB
open tyLoB
def ziO(f:FuncId):Bool:=Nat.beq f 131||Nat.beq f 85||Nat.beq f 86||Nat.beq f 87||Nat.beq f 88||Nat.beq f 132||Nat.beq f 133||Nat.beq f 134||Nat.beq f 135||Nat.beq f 174||Nat.beq f 175||Nat.beq f 176||Nat.beq f 201||Nat.beq f 45
structure LowT (tb:qH):Prop where
 pl:∀f,ziO f=true->(∀ar,dU tb f ar=none)/\mc tb f=false
def gM.len'{lo:Nat}(h:gM H v l lo)(H':Hp):jP prog H' 26 v=some (.int .i64 l.length):=by
 rcases h with⟨rfl,rfl⟩|h
 .exact Gv underlying26
 .exact h.len
def U1{kv:AV}{kids:qA}{lo:Nat}(op imm:Int)(z:gM H kv kids lo)(hS:∀k,a3 kv k->S k):cY S 2 H [.int .i64 op,.int .i64 imm,kv] (Nd.mk op imm kids).cells:=by
 refine .cons (.int _ _) (.cons (.int _ _) (.cons ?_ .nil));rcases z with⟨rfl,rfl⟩|⟨r,i,rfl,m,C,Y,Z⟩
 .exact .ao
 .exact U0 kids (hS r ⟨_,rfl⟩) Z m C
def ziP{kv:AV}{lo:Nat}(h:gM H kv l lo)(a b:Int):eg prog 58 [(0,.int .i64 a),(1,.int .i64 b),(2,kv)]=some (.agg [.int .i64 a,.int .i64 b,kv]):=by
 rcases h with⟨rfl,rfl⟩|⟨r,i,rfl,_⟩<;>kernel_rfl
theorem gM.one{H:Hp}{kv:AV}{l:qA}{lo:Nat}(h:gM H kv l lo):AV.one kv=true:=by
 rcases h with⟨rfl,rfl⟩|⟨r,i,rfl,_⟩<;>rfl
end
variable{b:qR}
section
def tyLoC.tyF:=ad @cG (ad @eG (ad @ij (ad @l8 (ad @jU (ad @ey (ad @gC (ad @nZ (ad @C0 (@C1)))))))))
open tyLoC
def Na{r o n:Nat}(h:a3 (.sl r o n z) k):k=r:=by
 obtain⟨m,e⟩:=h;simp only[AV.sl.injEq]at e;exact e.1.symm
def zE(h:a3 .ao k):False:=by
 obtain⟨m,e⟩:=h;cases e
def DX(H:Hp)(a b:Int):eW prog H 26 2 [(0,.int .i64 a),(1,.int .i64 b)]=some (.sl H.next 0 2 1,H.alloc (.cells [.int .i64 a,.int .i64 b] 0 true)):=ax
def U2(H:Hp)(a b c:Int):eW prog H 26 3 [(0,.int .i64 a),(1,.int .i64 b),(2,.int .i64 c)]=some (.sl H.next 0 3 1,H.alloc (.cells [.int .i64 a,.int .i64 b,.int .i64 c] 0 true)):=ax
def DY(H:Hp)(a:Int):eW prog H 26 1 [(0,.int .i64 a)]=some (.sl H.next 0 1 1,H.alloc (.cells [.int .i64 a] 0 true)):=ax
end
section
namespace tyLoD
end tyLoD
open tyLoD
structure CxOk (X:Lx) (c:Cx):Prop where
 ar:c.ab=X.p.ab
 ae:∀nm,di X.ae nm=bS (c.ab.map (·.name)) nm
 ne:∀nm,di X.ne nm=bS c.aO nm
 fe:∀nm,0<=bW c.funcs nm 0->di X.fe nm=bW c.funcs nm 0
end
section
def tyLoE.tyF:=ad @cG (ad @l7 (ad @eG (ad @jU (ad @ey (ad @gC (ad @i7 (ad @jh (ad @iC (ad @kg (ad @C0 (ad @C1 (@C3))))))))))))
open tyLoE
def ziQ(q:Nat)(H:Hp)(b:qR)(v:AV)(H':Hp):Prop:=H'.get q=some (.cells (b.map .bool) 0 true)/\H.next<=H'.next/\∀k,k<H.next->k≠q->H'.get k=H.get k
structure Smq (n q:Nat) (H H':Hp):Prop where
 get:∀k,k<n->k≠q->H'.get k=H.get k
theorem wt(I:List aY):∀(n:Nat) (l:qJ) (b J:qR),jK I n l b=some J->J.length=b.length
 |0,_,_,_,h=>by simp[jK]at h
 |n+1,[],b,J,h=>by cases h;rfl
 |n+1,x::l,b,J,h=>by
  unfold jK at h;simp only[]at h;split at h
  .cases h
  .simp only[aC]at h;obtain⟨z,m,Y,C,Z⟩:=h;rw[wt I n _ _ _ Z,wt I n _ _ _ C,wt I n _ _ _ m];split<;>simp
def U3{n:Nat}(Y:m<n):dK prog 149 (.sl q 0 n 1) (.int .i64 (m:Int))=some (.ptr q m):=by rw[pG underlying149 GV Y];simp
def ziR{r:Nat}(hg:H.get r=some (.cells (b.map .bool) 0 true))(Y:m<b.length)(x:Bool):jY prog H 4 (.ptr r m) (.bool x)=some (H.set r (.cells ((b.set m x).map .bool) 0 true)):=by
 rw[zgn hg (by rw[dk];exact Y),xD]
end
section
namespace tyLoF6
end tyLoF6
open tyLoF6
structure RowL (S:Nat->Prop) (vv:AV) (lo:Nat) (H:Hp) (av:AV) (l:qA):Prop where
 r:gM H av l lo
 n:∀k,a3 av k->¬S k/\¬a3 vv k
section
variable {tb:qH} (hG:LowT tb) {X:Lx} {c:Cx} (hX:CxOk X c) {x:St} {s:Bd} {H:Hp} {S:Nat -> Prop} {lv vv:AV}
set_option maxRecDepth 100000 in
include hG hX in
end
end
section
def tyLoG.tyF:=ad @dm (ad @cG (ad @eG (ad @jU (ad @ey (ad @gC (ad @i7 (ad @jh (ad @iC (ad @kg (ad @C0 (@C1)))))))))))
open tyLoG
structure RowZ (S:Nat->Prop) (vv:AV) (lo:Nat) (H:Hp) (av:AV) (l:qA):Prop where
 r:jy H av l lo
 n:∀k,a3 av k->¬S k/\¬a3 vv k
def jy.lt{lo:Nat}(h:jy H v l lo)(z:a3 v k):lo<=k/\k<H.next:=h.n.lt z
def jy.lo{lo:Nat}(h:jy H v l lo)(Z:∀k,a3 v k->L<=k):jy H v l L:=by
 rcases h with h|⟨r,j,m,C,Y⟩
 .exact .inl h
 .exact .inr ⟨r,j,m,Z r ⟨_,j⟩,Y⟩
def jy.one{H:Hp}{v:AV}{l:qA}{lo:Nat}(h:jy H v l lo):AV.one v=true/\v.cells=[v]:=by
 rcases h with⟨rfl,_⟩|⟨r,rfl,_⟩<;>exact⟨rfl,rfl⟩
def RowZ.at{vv:AV}{lo:Nat}{m:AV}(h:RowZ S vv lo H m l)(O:l[i]?=some x):∃r,dK prog 26 m (.int .i64 (i:Int))=some (.ptr r i)/\eP prog H 3 (.ptr r i)=some (.int .i64 x)/\a3 m r:=by
 have C:i<l.length:=by
  by_cases c:i<l.length
  .exact c
  .rw[ng ac]at O;cases O
 rcases h.r with⟨_,rfl⟩|V
 .simp at C
 .obtain⟨r,Z,Y⟩:=V.b.at C;rw[aX C]at O;simp only[am]at O;rw[O]at Y;refine⟨r,Z,Y,?_⟩;obtain⟨q,e,_⟩:=V;subst e;rw[pG underlying26 jI C]at Z;simp only[am,AV.ptr.injEq]at Z;exact⟨_,by rw[Z.1]⟩
section
variable {tb:qH} (hG:LowT tb) {X:Lx} {c:Cx} (hX:CxOk X c) {x:St} {s:Bd} {H:Hp} {S:Nat -> Prop} {lv vv:AV}
set_option maxRecDepth 100000 in
include hG hX in
end
end
section
def tyLoH.tyF:=ad @dm (ad @cG (ad @l7 (ad @eG (ad @jU (ad @ey (ad @gC (ad @i7 (ad @jh (ad @iC (ad @kg (ad @C0 (ad @C1 (ad @C3 (ad @DY (@DX)))))))))))))))
open tyLoH
abbrev zF(l:qG):qA:=l.map fun(i:Nat)=>(i:Int)
theorem ziS{r imm:Nat}(hg:H.get r=some (.cells (b.map .bool) imm true))(Y:m<b.length):eP prog H 4 (.ptr r m)=some (.bool (b.getD m false)):=by
 rw[yI underlying4 rfl hg,fd,dC,aX Y];rfl
def zG(b:qR)(i:Nat):qG:=(List.range i).filter fun i=>b.getD i false
theorem ziT(b:qR)(i:Nat):zG b (i+1)=zG b i++(if b.getD i false=true then [i]else []):=by
 unfold zG;rw[List.range_succ,List.filter_append]
 congr 1
 by_cases h:b.getD i false=true
 .rw[ai h];simp only[List.filter_cons,h,dG,List.filter_nil]
 .rw[ah h];simp only[List.filter_cons,h,List.filter_nil];rfl
def Bf(h:i∈bD b):i<b.length:=by
 unfold bD at h;exact tq.1 (FX.1 h).1
def U4(b:qR)(i:Nat):(zG b i).length<=i:=by
 have:=List.length_filter_le (fun i=>b.getD i false) (List.range i);rw[List.length_range]at this;exact this
def RowL.at{vv:AV}{lo:Nat}{m:AV}(h:RowL S vv lo H m l)(O:l[i]?=some x):∃r,dK prog 26 m (.int .i64 (i:Int))=some (.ptr r i)/\eP prog H 3 (.ptr r i)=some (.int .i64 x):=by
 have C:i<l.length:=by
  by_cases c:i<l.length
  .exact c
  .rw[ng ac]at O;cases O
 rcases h.r with⟨_,rfl⟩|V
 .simp at C
 .obtain⟨r,Y,Z⟩:=V.at C;rw[aX C]at O;simp only[am]at O;rw[O]at Z;exact⟨r,Y,Z⟩
def U5{j:Nat}(Z:L<2^36)(I:j<2^36):IntKind.wrap .i64 (16*(L:Int))=16*(L:Int)/\IntKind.wrap .i64 (16*(L:Int)+j)=16*(L:Int)+j/\IntKind.wrap .i64 (16*(L:Int)+j+1)=16*(L:Int)+1+j:=by
 refine⟨fN ac ac,fN ac ac,?_⟩;rw[fN ac ac];omega
theorem U6(base:Int)(w:Nat)(ws:qG)(j:Nat)(s:Bd):fX base (w::ws) j s=fX base ws (j+1) { (aj ⟨3,base+j,[]⟩ s).2 with vars:=(aj ⟨3,base+j,[]⟩ s).2.vars.set w (aj ⟨3,base+j,[]⟩ s).1}:=rfl
theorem U7(lp c:Int)(old:qA)(w:Nat)(ws:qG)(j:Nat)(s:Bd):fj lp c old (w::ws) j s=fj lp c old ws (j+1) { (a5 c (aj ⟨25,j,[lp]⟩ s).1 (old.getD w 0) (aj ⟨25,j,[lp]⟩ s).2).2 with vars:=(a5 c (aj ⟨25,j,[lp]⟩ s).1 (old.getD w 0) (aj ⟨25,j,[lp]⟩ s).2).2.vars.set w (a5 c (aj ⟨25,j,[lp]⟩ s).1 (old.getD w 0) (aj ⟨25,j,[lp]⟩ s).2).1}:=rfl
def ziU(b:qR):(bD b).Nodup:=List.nodup_range.filter _
section
variable {tb:qH} (hG:LowT tb) {X:Lx} {c:Cx} (hX:CxOk X c) {x:St} {s:Bd} {H:Hp} {S:Nat -> Prop} {lv vv:AV}
set_option maxRecDepth 100000 in
include hG hX in
end
end
section
namespace tyLoJ
end tyLoJ
open tyLoJ
theorem DZ:∀(n k:Nat) (s:Bd),eD s (gH n k s)/\(gH n k s).vars.length=s.vars.length+n
 |0,k,s=>⟨sR s,rfl⟩
 |n+1,k,s=>by
  have e:=DZ n (k+1) { (aj ⟨2,k,[]⟩ s).2 with vars:=(aj ⟨2,k,[]⟩ s).2.vars++[(aj ⟨2,k,[]⟩ s).1] };refine⟨(((b9 ⟨2,k,[]⟩ s).le.setV _)).trans e.1,?_⟩;show(gH n (k+1) _).vars.length=_;rw[e.2,fx];show s.vars.length+1+n=_;omega
theorem D0:∀(n:Nat) (s:Bd),eD s (iS n s)/\(iS n s).vars.length=s.vars.length+n
 |0,s=>⟨sR s,rfl⟩
 |n+1,s=>by
  have e:=D0 n { (aj ⟨1,0,[]⟩ s).2 with vars:=(aj ⟨1,0,[]⟩ s).2.vars++[(aj ⟨1,0,[]⟩ s).1] };refine⟨(((b9 ⟨1,0,[]⟩ s).le.setV _)).trans e.1,?_⟩;show(iS n _).vars.length=_;rw[e.2,fx];show s.vars.length+1+n=_;omega
end
end Go.Proofs.YtbflaciihaijgaaGreat
