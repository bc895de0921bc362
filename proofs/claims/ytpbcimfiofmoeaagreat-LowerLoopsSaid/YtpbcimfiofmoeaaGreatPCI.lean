/- Parts: L4a, R3d, R3e, R3f, R3g, R3h, R3i, R3j, Spec6, Sem6, Rep6, Rep6c, L4b, P4e, V5, V6, SemT, SemV, SpecL, LoK, SpecM, SpecN. -/
import Derived.Test.YtpbcimfiofmoeaaGreatPCH
set_option linter.unusedSimpArgs false
set_option linter.unusedVariables false
set_option linter.unusedSectionVars false
set_option linter.defProp false
set_option maxHeartbeats 32000000
namespace Go.Ab
set_option maxRecDepth 20000
open Go
theorem JH{P:Prop}(h:P:=by rw[zhX,rq,decide_eq_true e.symm,Bool.or_true]):P:=h
theorem dR{P:Prop}(h:P:=by rfl):P:=h
theorem t9{P:Prop}(h:P:=by simp at o;omega):P:=h
theorem iP{P:Prop}(h:P:=by simp only[zfI,zfw];omega):P:=h
theorem vo{P:Prop}(h:P:=by rw[zfk,if_pos dR];rfl):P:=h
theorem JI{P:Prop}(h:P:=by simp only[zfo,Nat.reduceBEq, *];exact zhp (n:=J.length) ac ac):P:=h
theorem AJ{P:Prop}(h:P:=by simp only[zfo,Nat.reduceBEq, *];exact zhp (n:=x.length) ac ac):P:=h
theorem JJ{P:Prop}(h:P:=by rw[<- o,zfk,if_neg iP,Hp.get_set,if_neg ac,zfk,if_neg ac]):P:=h
theorem Ep{P:Prop}(h:P:=by simp only[zfo,Nat.reduceBEq, *];exact zhp (n:=p.arrays.length) ac ac):P:=h
theorem ua{P:Prop}(h:P:=by simp only[zfo,Nat.reduceBEq, *];exact zhp (n:=p.funcs.length) ac ac):P:=h
def iJ:=@cond_true
def qd:=@List.all_cons
def vp:=@Bool.not_or
def qe:=@of_decide_eq_true
def xO:=@List.any_append
def sE:=@Bool.not_eq_false'
def AK:=@List.mem_singleton
def AL:=@Bool.or_true
def AM:=@List.nodup_nil
def ub:=@List.nodup_cons
def xP:=@Go.IntKind.wrap_u8
def JK:=@Int.fdiv_eq_ediv_of_nonneg
def xQ:=@Go.IntKind.wrap_u64
def xR:=@List.prefix_refl
def uc:=@Nat.lt_of_le_of_lt
def jk:=@List.length_set
def fw:=And.intro @fH.{0,0} @az.{0}
def iQ:=And.intro @oY @sE
def oK:=And.intro @o0 @AL
end Go.Ab
namespace Go.Proofs.YtpbcimfiofmoeaaGreat
set_option maxRecDepth 20000
open Go Go.Ab
section
theorem AN(d:Nat)(h:d<2^60):cu ((d:Int)+1)=((d+1:Nat):Int):=by unfold cu;rw[zhb ac ac];omega
mutual
theorem JL:∀(x:Ex) (d:Nat),d<=21->mh ri x d=decide (d+eU x<=20)
 | .mk k n s o V,d,hd=>by
   rw[mh,ri,eU];by_cases h:d<=20
   .rw[AN d ac,JM V d h];simp only[show decide ((d:Int)<=20)=true by simpa using (by omega:(d:Int)<=20),fy]
   .have i:decide ((d:Int)<=20)=false:=by simp;omega
    rw[i,eJ];symm;simp;omega
theorem JM:∀(l:List Ex) (d:Nat),d<=20->zhs ri l ((d+1:Nat):Int)=decide (d+mr l<=20)
 |[],d,hd=>by rw[zhs,mr];symm;simpa using hd
 |e::es,d,hd=>by
  rw[zhs,JL e (d+1) ac,JM es d hd,mr];by_cases i:d+1+eU e<=20<;>by_cases g:d+mr es<=20;all_goals simp only[i,g,jt,gE,jV,p7,]
  all_goals (symm;simp;omega)
end
theorem Er(x:Ex):mh ri x 0=!decide ((20:Int)<eU x):=by
 have:=JL x 0 ac;rw[show((0:Nat):Int)=0 from rfl]at this;rw[this];by_cases h:eU x<=20
 .have:¬(20:Int)<eU x:=by omega
  simp[h,this]
 .have:(20:Int)<eU x:=by omega
  simp[h,this]
theorem JN:∀(l:List Ex),zhs ri l 0=!(l.any fun e=>decide ((20:Int)<eU e))
 |[]=>rfl
 |e::es=>by rw[zhs,Er,JN es,oG,vp]
mutual
theorem ZG:∀(x:St) (d:Int),kG (oD ri) x d ()=(!oI x,())
 | .mk k J Z n a v j C I,d=>by
   rw[kG,oD,oI];simp only[St.at_,St.value,St.args,Er,JN];cases i:decide ((20:Int)<eU a)
   .cases g:decide ((20:Int)<eU v)
    .cases m:j.any fun e=>decide ((20:Int)<eU e)
     .simp only[iC,jV,AO C];cases O:kM C
      .simp only[iC,AO I,gK,gH]
      .simp
     .simp
    .simp
   .simp
theorem AO:∀(l:List St) (d:Int),zgQ (oD ri) l d ()=(!kM l,())
 |[],_=>rfl
 |x::l,d=>by
  rw[zgQ,ZG x,kM];cases h:oI x
  .simp only[iC,AO l,gH]
  .simp
end
def sF(k:Int):Nat:=if k=4 then 1 else 0
theorem ZH(x:St)(d n l:Nat)(z:n<2^60)(L:l<2^60):nH x d ((n:Int),(l:Int))=(decide ((d:Int)<=20)&&decide (((n+1:Nat):Int)<=200)&&decide (((l+sF x.kind:Nat):Int)<=16),(((n+1:Nat):Int),((l+sF x.kind:Nat):Int))):=by
 have M:(if x.kind=4 then cu ((l:Int)+1)else (l:Int))=((l+sF x.kind:Nat):Int):=by
  unfold sF;split
  .rw[AN l ac]
  .rfl
 unfold nH;simp only[AN n ac,M]
mutual
theorem ZI:∀(x:St) (d n l:Nat),d<=21->n<=200->l<=16 ->
 ((zfJ x d<=20/\n+zgn x<=200/\l+zgc x<=16)->kG nH x d ((n:Int),(l:Int))=(true,(((n+zgn x:Nat):Int),((l+zgc x:Nat):Int)))) /\
 (¬(zfJ x d<=20/\n+zgn x<=200/\l+zgc x<=16)->(kG nH x d ((n:Int),(l:Int))).1=false)
 | .mk k J O K a v j C I,d,n,l,hd,hn,hl=>by
   have Z:sF (St.mk k J O K a v j C I).kind<=1:=by unfold sF;split<;>omega
   have o:zgc (.mk k J O K a v j C I)=sF (St.mk k J O K a v j C I).kind+zfQ C+zfQ I:=by rw[zgc];rfl
   rw[kG,ZH _ _ _ _ ac ac,o];obtain⟨z,L⟩:∃z,sF (St.mk k J O K a v j C I).kind=z:=⟨_,rfl⟩;rw[L]at Z⊢;clear L o;simp only[AN d ac,zfJ,zgn];by_cases m:d<=20/\n+1<=200/\l+z<=16
   .have Y:(decide ((d:Int)<=20)&&decide (((n+1:Nat):Int)<=200)&&decide (((l+z:Nat):Int)<=16))=true:=by
     rw[co,co];refine⟨⟨?_,?_⟩,?_⟩<;>apply dt<;>omega
    rw[Y];simp only[];have t:=AP C (d+1) (n+1) (l+z) ac ac ac;by_cases i:zhi C (d+1)<=20/\n+1+zgl C<=200/\l+z+zfQ C<=16
    .rw[t.1 i];simp only[];have u:=AP I (d+1) (n+1+zgl C) (l+z+zfQ C) ac ac ac;by_cases g:zhi I (d+1)<=20/\n+1+zgl C+zgl I<=200/\l+z+zfQ C+zfQ I<=16
     .rw[u.1 g];refine⟨fun _=>?_,fun h=>(h ⟨ac,ac,ac⟩).elim⟩;rw[show n+1+zgl C+zgl I=n+(1+zgl C+zgl I) by omega,show l+z+zfQ C+zfQ I=l+(z+zfQ C+zfQ I) by omega]
     .refine⟨fun h=>(g ⟨ac,ac,ac⟩).elim,fun _=>u.2 g⟩
    .refine⟨fun h=>(i ⟨ac,ac,ac⟩).elim,fun _=>?_⟩;have:=t.2 i;generalize zgQ nH C _ _=r at this⊢;obtain⟨b,s⟩:=r;simp only at this;subst this;rfl
   .have Y:(decide ((d:Int)<=20)&&decide (((n+1:Nat):Int)<=200)&&decide (((l+z:Nat):Int)<=16))=false:=by
     rw[<-Bool.not_eq_true,co,co];rintro⟨⟨V,U⟩,M⟩;have V:=qe V;have U:=qe U;have M:=qe M;exact m ⟨ac,ac,ac⟩
    rw[Y];exact⟨fun h=>(m ⟨ac,ac,ac⟩).elim,fun _=>rfl⟩
theorem AP:∀(x:List St) (d n l:Nat),d<=21->n<=200->l<=16 ->
 ((zhi x d<=20/\n+zgl x<=200/\l+zfQ x<=16)->zgQ nH x d ((n:Int),(l:Int))=(true,(((n+zgl x:Nat):Int),((l+zfQ x:Nat):Int)))) /\
 (¬(zhi x d<=20/\n+zgl x<=200/\l+zfQ x<=16)->(zgQ nH x d ((n:Int),(l:Int))).1=false)
 |[],d,n,l,hd,hn,hl=>by
  rw[zgQ,zhi,zgl,zfQ];exact⟨fun _=>rfl,fun h=>(h ⟨ac,ac,ac⟩).elim⟩
 |x::r,d,n,l,hd,hn,hl=>by
  rw[zgQ,zhi,zgl,zfQ];have t:=ZI x d n l hd hn hl;by_cases i:zfJ x d<=20/\n+zgn x<=200/\l+zgc x<=16
  .rw[t.1 i];simp only[];have u:=AP r d (n+zgn x) (l+zgc x) hd ac ac;by_cases g:zhi r d<=20/\n+zgn x+zgl r<=200/\l+zgc x+zfQ r<=16
   .rw[u.1 g];refine⟨fun _=>?_,fun h=>(h ⟨ac,ac,ac⟩).elim⟩;rw[show n+zgn x+zgl r=n+(zgn x+zgl r) by omega,show l+zgc x+zfQ r=l+(zgc x+zfQ r) by omega]
   .exact⟨fun h=>(g ⟨ac,ac,ac⟩).elim,fun _=>u.2 g⟩
  .refine⟨fun h=>(i ⟨ac,ac,ac⟩).elim,fun _=>?_⟩;have:=t.2 i;generalize kG nH x _ _=r at this⊢;obtain⟨b,s⟩:=r;simp only at this;subst this;rfl
end
theorem ZJ(x:List St):(zgQ nH x 0 (0,0)).1=(!decide ((200:Int)<zgl x) && !decide ((16:Int)<zfQ x) && !decide ((20:Int)<zhi x 0)):=by
 have t:=AP x 0 0 0 ac ac ac;rw[show((0:Nat):Int)=0 from rfl]at t;simp only[b9]at t;by_cases h:zhi x 0<=20/\zgl x<=200/\zfQ x<=16
 .rw[t.1 h];have i:¬(200:Int)<zgl x:=ac;have g:¬(16:Int)<zfQ x:=ac;have m:¬(20:Int)<zhi x 0:=ac;simp[i,g,m]
 .rw[t.2 h]
  symm
  rw[<-Bool.not_eq_true,co,co];rintro⟨⟨C,K⟩,M⟩;simp only[oY,i4]at C K M;exact h ⟨ac,ac,ac⟩
theorem ZK(f:Fu):jD f=!oJ f:=by
 rw[jD,oJ,oE,ZJ,Er,AO];have i:decide ((f.params.length:Int)<=6)=!decide ((6:Int)<f.params.length):=by
  by_cases h:(6:Int)<f.params.length
  .have:¬(f.params.length:Int)<=6:=by omega
   simp[h,this]
  .have:(f.params.length:Int)<=6:=by omega
   simp[h,this]
 have Z:decide ((f.locals.length:Int)<=8)=!decide ((8:Int)<f.locals.length):=by
  by_cases h:(8:Int)<f.locals.length
  .have:¬(f.locals.length:Int)<=8:=by omega
   simp[h,this]
  .have:(f.locals.length:Int)<=8:=by omega
   simp[h,this]
 rw[i,Z];simp only[vp];generalize (!decide ((6:Int)<f.params.length))=a;generalize (!decide ((8:Int)<f.locals.length))=b;generalize (!decide ((200:Int)<zgl f.body))=c;generalize (!decide ((16:Int)<zfQ f.body))=d;generalize (!decide ((20:Int)<zhi f.body 0))=e;generalize (!kM f.body)=g;generalize (!decide ((20:Int)<eU f.value))=h;cases a<;>cases b<;>cases c<;>cases d<;>cases e<;>cases g<;>cases h<;>rfl
theorem JO{i:Type}(l:List i)(p q:i->Bool)(h:∀x,p x=!q x):l.all p=!l.any q:=by
 induction l with
 |nil=>rfl
 |cons a l ih=>rw[qd,oG,vp,h,ih]
theorem ZL(p:Pr):lj p=!lx p:=by
 rw[lj,lx,JO p.funcs jD oJ ZK,JO p.arrays _ t8 (fun a=>by rw[t8,vp])];simp only[vp]
def tyR3d.tyF:=ad @ej (ad @cN (ad @dH (ad @fP (ad @eR (ad @fO (@gJ))))))
open tyR3d
def lS(x:Ex):Bool:=
 if x.kind=1 then decide ((x.kids.length:Int)=0)&&decide (x.name=[])&&decide (x.op=0)
 else if x.kind=2 then decide ((x.kids.length:Int)=0)&&decide (x.n=0)&&decide (x.op=0)&&zf7 x.name
 else if x.kind=3 then decide ((x.kids.length:Int)=1)&&decide (x.n=0)&&decide (x.op=0)&&zf7 x.name
 else if x.kind=4 then decide (x.n=0)&&decide (x.name=[])&&((decide ((x.kids.length:Int)=2)&&tX x.op)||(decide ((x.kids.length:Int)=1)&&(decide (x.op=20)||decide (x.op=21))))
 else if x.kind=5 then decide ((x.kids.length:Int)=3)&&decide (x.n=0)&&decide (x.name=[])&&decide (x.op=0)
 else false
mutual
def gk:Ex->Bool
 | .mk k n s o V=>eV V&&lS (.mk k n s o V)
def eV:List Ex->Bool
 |[]=>true
 |e::es=>gk e&&eV es
end
theorem Es(x:Ex):gk x=(eV x.kids&&lS x):=by cases x;rw[gk];rfl
noncomputable def Et:En:=⟨46,false,dc (fun s=>s.length<2^60) nJ fun s=>.bool (zf7 s)⟩
theorem JP(ρ:Nat->Int):zgE Tryz.prog ρ Et:=zgO fun x C=>Y5 ρ x C
theorem JQ(x y:Int)(h:([.int .i64 x]:List AV)=[.int .i64 y]):x=y:=jv
end
section
namespace tyR3e
end tyR3e
open tyR3e
def ud(x:St):Bool:=decide (x.name=[])&&decide (x.to=[])&&decide (x.n=0)&&zeroE x.at_&&decide ((x.args.length:Int)=0)
def mQ(x:St):Bool:=decide ((x.thn.length:Int)=0)&&decide ((x.els.length:Int)=0)
def jl(x:St):Bool:=
 if x.kind=1 then mQ x&&zf7 x.name&&decide (x.to=[])&&decide (x.n=0)&&zeroE x.at_&&decide ((x.args.length:Int)=0)&&gk x.value
 else if x.kind=2 then mQ x&&zf7 x.name&&decide (x.to=[])&&decide (x.n=0)&&gk x.at_&&decide ((x.args.length:Int)=0)&&gk x.value
 else if x.kind=3 then ud x&&gk x.value
 else if x.kind=4 then ud x&&gk x.value&&decide ((x.els.length:Int)=0)
 else if x.kind=5 then mQ x&&ud x&&gk x.value
 else if x.kind=6 then mQ x&&zf7 x.name&&zf7 x.to&&decide (x.n=0)&&zeroE x.at_&&zeroE x.value
 else if x.kind=7 then mQ x&&decide (x.name=[])&&decide (x.to=[])&&decide (0<=x.n)&&decide (x.n<=1000000)&&zeroE x.at_&&zeroE x.value&&decide ((x.args.length:Int)=0)
 else false
def jZ(x:St):Bool:=eV x.args&&jl x
end
section
def tyR3f.tyF:=ad @ej (ad @cN (ad @dH (ad @lP (ad @nF (ad @iZ (ad @iO (ad @fO (ad @fP (ad @eR (ad @mM (ad @pV (@gJ))))))))))))
open tyR3f
mutual
def j0:St->Bool
 | .mk k J O n a v j C I=>jZ (.mk k J O n a v j C I)&&gO C&&gO I
def gO:List St->Bool
 |[]=>true
 |x::l=>j0 x&&gO l
end
theorem ue(x:St):j0 x=(jZ x&&gO x.thn&&gO x.els):=by cases x;rw[j0];rfl
theorem Eu:∀{l:List Ar}{a:Ar},a∈l->a.name.length<jC l
 |[],_,h=>by simp at h
 |e::es,x,h=>by
  rcases eP.1 h with rfl|h
  .simp only[jC];omega
  .have:=Eu h;simp only[jC];omega
def fnNames(f:Fu):List (List UInt8):=[f.name]++f.params++f.locals
def lT(f:Fu):Bool:=(fnNames f).all zf7&&gO f.body&&gk f.value
def ja(p:Pr):Bool:=p.arrays.all (fun a=>zf7 a.name)&&p.funcs.all lT
theorem ZM(H:Hp)(s:List UInt8):zgW Tryz.prog H 59 1 [(0,.str s)]=some (.sl H.next 0 1 1,H.alloc (.cells [.str s] 0 true)):=aj
end
section
namespace tyR3g
end tyR3g
open tyR3g
def zfW:List (List UInt8)->List (List UInt8)->Bool
 |_,[]=>false
 |seen,s::l=>zfE seen s||zfW (seen++[s]) l
def nL(K:List (List UInt8)):List (List UInt8)->List Fu->Bool
 |_,[]=>false
 |seen,f::fs=>zfE seen f.name||zfW K (f.params++f.locals)||nL K (seen++[f.name]) fs
def zgb(p:Pr):List (List UInt8):=p.arrays.map (·.name)
def mR(p:Pr):Bool:=zfW [] (zgb p)||nL (zgb p) [] p.funcs
end
section
namespace tyR3h
end tyR3h
open tyR3h
structure Sc where
 vars:List (List UInt8)
 arrays:Option (List (List UInt8))
 p:Pr
def Sc.an(x:Sc):List (List UInt8):=x.arrays.getD []
def ZN:Option (List (List UInt8))->AV
 |none=>.nilS
 |some l=>jp l
def Sc.cells(x:Sc):List AV:=[jp x.vars,ZN x.arrays,.lst (x.p.arrays.map Ar.cells),.lst (x.p.funcs.map Fu.cells)]
theorem Sc.whole(x:Sc):jo 4 x.cells=some (.agg x.cells):=rfl
theorem ZO(x:Sc):jo 2 (x.cells.drop 2)=some (.agg x.p.cells):=rfl
section
variable (vs an:List (List UInt8))
def ii(x:Ex):Bool:=(!decide (x.kind=2)||zfE vs x.name)&&(!decide (x.kind=3)||zfE an x.name)
mutual
def eW:Ex->Bool
 | .mk k n s o V=>zg5 V&&ii vs an (.mk k n s o V)
def zg5:List Ex->Bool
 |[]=>true
 |e::es=>eW e&&zg5 es
end
theorem Ev(x:Ex):eW vs an x=(zg5 vs an x.kids&&ii vs an x):=by cases x;rw[eW];rfl
end
def kN(c:Sc)(x:St):Bool:=
 if x.kind=1 then zfE c.vars x.name
 else if x.kind=6 then zfE c.vars x.name&&decide (0<=zgz c.p.funcs x.to 0)
 else if x.kind=2 then zfE c.an x.name
 else true
def px(c:Sc)(x:St):Bool:=zg5 c.vars c.an x.args&&eW c.vars c.an x.at_&&eW c.vars c.an x.value&&kN c x
end
section
def tyR3i.tyF:=ad @cN (ad @dH (ad @lP (ad @nF (ad @iZ (ad @iO (ad @fO (ad @fP (ad @eR (ad @mM (ad @gJ (ad @Xc (ad @ZO (@Sc.whole)))))))))))))
open tyR3i
def py(p:Pr)(s:List UInt8):Nat:=((p.funcs[(zgz p.funcs s 0).toNat]?).map fun f=>f.params.length).getD 0
def mw(p:Pr)(x:St):Bool:=!(decide (x.kind=6) && !decide ((x.args.length:Int)=py p x.to))
section
variable (c:Sc)
mutual
def gR(b:Bool):St->Bool
 | .mk k J O n a v j C I=>(bif b then mw c.p (.mk k J O n a v j C I)else px c (.mk k J O n a v j C I))&&zgF b C&&zgF b I
def zgF(b:Bool):List St->Bool
 |[]=>true
 |x::l=>gR b x&&zgF b l
end
theorem Ew(b:Bool)(x:St):gR c b x=((bif b then mw c.p x else px c x)&&zgF c b x.thn&&zgF c b x.els):=by cases x;rw[gR];rfl
end
section
variable (p:Pr)
end
theorem Ey:∀(l:List Fu) (s:List UInt8) (i:Nat),0<=zgz l s i->∃k,k<l.length/\zgz l s i=((i+k:Nat):Int)
 |[],s,i,h=>by simp[zgz]at h
 |f::l,s,i,h=>by
  simp only[zgz]at h⊢;split
  .exact⟨0,au,au⟩
  .rename_i z;rw[af z]at h;obtain⟨k,Z,g⟩:=Ey l s (i+1) (by exact h);exact⟨k+1,uJ,by rw[show((i:Int)+1)=((i+1:Nat):Int) by omega,g];omega⟩
end
section
namespace tyR3j
end tyR3j
open tyR3j
def gY(p:Pr)(f:Fu):Sc:=⟨f.params++f.locals,some (zgb p),p⟩
def mS(p:Pr)(f:Fu):Bool:=!(zgF (gY p f) false f.body&&eW (gY p f).vars (gY p f).an f.value)
def nM(p:Pr)(f:Fu):Bool:=!zgF (gY p f) true f.body
def zhj(p:Pr):Int:=if lx p=true then 6 else if ja p=false then 2 else if mR p=true then 4 else if p.funcs.any (mS p)=true then 3 else if p.funcs.any (nM p)=true then 5 else 0
end
end Go.Proofs.YtpbcimfiofmoeaaGreat
namespace Go.Ab
set_option maxRecDepth 20000
open Go
def JR(k:IntKind)(a b:Int):Int:=a.fdiv (2^ min b.toNat k.bits)
theorem bin_shr{P:Program}{D:BinOp->Sx->Sx->Option Bool}{t:TypeId}{k Y:IntKind}{a b:Int}(o:0<=b):zgV P D .shr t (.int k a) (.int Y b)=some (.int k (JR k a b)):=by
 obtain⟨m,rfl⟩:=jw o;simp only[zgV,rO];show uF .shr k a (Int.ofNat m)=_;simp[uF,JR]
abbrev zfD:=List UInt8
structure MS where
 fuel:Int
 fin:Int
 code:Int
 cells:List (zfD×List Int)
 out:List Int
def em:List (zfD×Int)->zfD->Int
 |[],_=>0
 |p::l,nm=>if nm=p.1 then p.2 else em l nm
def setV:List (zfD×Int)->zfD->Int->List (zfD×Int)
 |[],nm,x=>[(nm,x)]
 |p::l,nm,x=>if nm=p.1 then (nm,x)::l else p::setV l nm x
section
variable (p:Pr) (fi:List (zfD × Int))
end
def cW(vs:List (zfD×Int)):List (AV×AV):=vs.map fun p=>(.str p.1,.int .i64 p.2)
def cEs:List (zfD×List Int)->List Nat->List (AV×AV)
 |p::l,r::rs=>(.str p.1,.sl r 0 p.2.length 1)::cEs l rs
 |_,_=>[]
theorem Ez(nm:zfD):∀(vs:List (zfD×Int)) (i:Nat),(jB .string (.str nm) (cW vs) i=some none/\em vs nm=0/\∀x,cW (setV vs nm x)=cW vs++[(.str nm,.int .i64 x)]) \/
 ∃j,j<vs.length/\jB .string (.str nm) (cW vs) i=some (some (i+j,.int .i64 (em vs nm)))/\∀x,cW (setV vs nm x)=(cW vs).set j (.str nm,.int .i64 x)
 |[],i=>.inl ⟨rfl,rfl,fun _=>rfl⟩
 |p::l,i=>by
  by_cases h:nm=p.1
  .refine .inr ⟨0,au,?_,fun x=>?_⟩
   .simp[cW,jB,nZ,em,h]
   .simp[cW,setV,h]
  .have Y:jB .string (.str nm) (cW (p::l)) i=jB .string (.str nm) (cW l) (i+1):=by
    show jB .string (.str nm) ((.str p.1,.int .i64 p.2)::cW l) i=_;have:(nm == p.1)=false:=jv;simp[jB,nZ,this]
   have L:em (p::l) nm=em l nm:=by simp[em,h]
   have K:∀x,cW (setV (p::l) nm x)=(.str p.1,.int .i64 p.2)::cW (setV l nm x):=fun x=>by simp[setV,h,cW]
   rw[Y,L];rcases Ez nm l (i+1)with⟨Z,g,m⟩|⟨j,V,Z,m⟩
   .refine .inl ⟨Z,g,fun x=>?_⟩;rw[K,m];simp[cW]
   .refine .inr ⟨j+1,cC,?_,fun x=>?_⟩
    .rw[Z,show i+1+j=i+(j+1) by omega]
    .rw[K,m];simp[cW]
structure Mx where
 p:Pr
 rm:Nat
 rc:Nat
 rf:Nat
 rs:List Nat
 fi:List (zfD×Int)
theorem JS{P:Program}{H:Hp}{t g e r:Nat}{V:List (AV×AV)}{nm:zfD}{z:AV}(C:P.underlying t=some (.map g e))(j:mH P g=some .string)(I:qL P e=some z)(J:H.get r=some (.map V)):
 (jB .string (.str nm) V 0=some none->zhv P H t (.map r) (.str nm) false=some z)/\∀i v,jB .string (.str nm) V 0=some (some (i,v))->zhv P H t (.map r) (.str nm) false=some v:=by
 refine⟨fun h=>?_,fun i v h=>?_⟩<;>simp only[zhv,C,j,I,te,J,h,wd]
theorem EA{P:Program}{H:Hp}{t g e r:Nat}{V:List (AV×AV)}{nm:zfD}{x:AV}(C:P.underlying t=some (.map g e))(j:mH P g=some .string)(J:H.get r=some (.map V)):
 (jB .string (.str nm) V 0=some none->jj P H t (.map r) (.str nm) x=some (H.set r (.map (V++[(.str nm,x)]))))/\∀i v,jB .string (.str nm) V 0=some (some (i,v))->jj P H t (.map r) (.str nm) x=some (H.set r (.map (V.set i (.str nm,x)))):=by
 refine⟨fun h=>?_,fun i v h=>?_⟩<;>simp only[jj,C,j,J,h]
theorem EB{P:Program}{H:Hp}{t g e r:Nat}(C:P.underlying t=some (.map g e))(Z:mH P g=some .string)(I:qL P e=some (.int .i64 0)){vs:List (zfD×Int)}(J:H.get r=some (.map (cW vs)))(nm:zfD):
 zhv P H t (.map r) (.str nm) false=some (.int .i64 (em vs nm)):=by
 obtain⟨l1,V⟩:=JS (nm:=nm) C Z I J;rcases Ez nm vs 0 with⟨i,Y,m⟩|⟨j,U,i,m⟩
 .rw[l1 i,Y]
 .rw[V _ _ i]
theorem xS{P:Program}{H:Hp}{t g e r:Nat}(C:P.underlying t=some (.map g e))(Z:mH P g=some .string){vs:List (zfD×Int)}(J:H.get r=some (.map (cW vs)))(nm:zfD)(x:Int):
 jj P H t (.map r) (.str nm) (.int .i64 x)=some (H.set r (.map (cW (setV vs nm x)))):=by
 obtain⟨l1,V⟩:=EA (nm:=nm) (x:=.int .i64 x) C Z J;rcases Ez nm vs 0 with⟨i,Y,m⟩|⟨j,U,i,m⟩
 .rw[l1 i,m]
 .rw[V _ _ i,m,b9]
def j5:List Fu->Nat->List (zfD×Int)->List (zfD×Int)
 |[],_,m=>m
 |f::l,i,m=>j5 l (i+1) (setV m f.name i)
def ij:List (zfD×Int)->zfD->Bool
 |[],_=>false
 |p::l,nm=>if nm=p.1 then true else ij l nm
theorem EC(nm:zfD):∀(vs:List (zfD×Int)) (i:Nat),(ij vs nm=false->jB .string (.str nm) (cW vs) i=some none/\em vs nm=0)/\(ij vs nm=true->∃j,jB .string (.str nm) (cW vs) i=some (some (j,.int .i64 (em vs nm))))
 |[],i=>⟨fun _=>⟨rfl,rfl⟩,fun h=>by simp[ij]at h⟩
 |p::l,i=>by
  by_cases h:nm=p.1
  .refine⟨fun g=>by simp[ij,h]at g,fun _=>⟨i,?_⟩⟩;simp[cW,jB,nZ,em,h]
  .have Z:jB .string (.str nm) (cW (p::l)) i=jB .string (.str nm) (cW l) (i+1):=by
    show jB .string (.str nm) ((.str p.1,.int .i64 p.2)::cW l) i=_;have:(nm == p.1)=false:=jv;simp[jB,nZ,this]
   have L:em (p::l) nm=em l nm:=by simp[em,h]
   have m:ij (p::l) nm=ij l nm:=by simp[ij,h]
   rw[Z,L,m];exact EC nm l (i+1)
theorem JT{P:Program}{H:Hp}{t g e r:Nat}(C:P.underlying t=some (.map g e))(Z:mH P g=some .string)(I:qL P e=some (.int .i64 0)){vs:List (zfD×Int)}(J:H.get r=some (.map (cW vs)))(nm:zfD):
 zhv P H t (.map r) (.str nm) true=some (.tup [.int .i64 (em vs nm),.bool (ij vs nm)]):=by
 obtain⟨i,V⟩:=EC nm vs 0;cases Y:ij vs nm with
 |false=>
  obtain⟨m,U⟩:=i Y;simp only[zhv,C,Z,I,te,J,m,wd,U]
 |true=>
  obtain⟨j,m⟩:=V Y;simp only[zhv,C,Z,te,J,m,wd]
end Go.Ab
namespace Go.Proofs.YtpbcimfiofmoeaaGreat
set_option maxRecDepth 20000
open Go Go.Ab
section
def jJ(p:Pr):List (List UInt8):=p.funcs.map (·.name)
def oL(p:Pr):Bool:=zfW [] (zgb p)||zfW [] (jJ p)||p.funcs.any fun f=>zfW [] (zgb p++(f.params++f.locals))
theorem JU:∀(a b seen:List (List UInt8)),zfW seen (a++b)=(zfW seen a||zfW (seen++a) b)
 |[],b,seen=>by simp[zfW]
 |x::a,b,seen=>by rw[pj,zfW,zfW,JU a b,nu,List.singleton_append,D0]
theorem AQ(K:List (List UInt8)):∀(I:List Fu) (seen:List (List UInt8)),nL K seen I=(zfW seen (I.map (·.name))||I.any fun f=>zfW K (f.params++f.locals))
 |[],seen=>rfl
 |f::I,seen=>by
  rw[nL,dE,zfW,oG,AQ K I];cases zfE seen f.name<;>cases zfW K (f.params++f.locals)<;>cases zfW (seen++[f.name]) (I.map (·.name))<;>rfl
theorem JV(p:Pr):oL p=mR p:=by
 rw[oL,mR,AQ];cases h:zfW [] (zgb p)
 .have e:(fun f:Fu=>zfW [] (zgb p++(f.params++f.locals)))=fun f=>zfW (zgb p) (f.params++f.locals):=by
   funext f;rw[JU,h];rfl
  rw[e];rfl
 .rfl
def zg6:List Fu->List (zfD×Int)->List (zfD×Int)
 |[],m=>m
 |f::l,m=>zg6 l (setV m f.name f.params.length)
theorem uf(s a:zfD)(x:Int):∀m:List (zfD×Int),em (setV m a x) s=if s=a then x else em m s
 |[]=>by simp[setV,em]
 |q::l=>by
  by_cases h:a=q.1
  .simp only[setV,h,cV,em];split<;>rfl
  .simp only[setV,h,cS,em,uf s a x l];by_cases g:s=q.1
   .rw[aq g,aq g,af (fun e=>h (by rw[<-e,g]))]
   .rw[af g,af g]
theorem JW(s a:zfD)(x:Int):∀m:List (zfD×Int),ij (setV m a x) s=(decide (s=a)||ij m s)
 |[]=>by
  by_cases h:s=a<;>simp[setV,ij,h]
 |q::l=>by
  by_cases h:a=q.1
  .by_cases g:s=q.1<;>simp[setV,ij,h,g]
  .have e:=JW s a x l;by_cases g:s=q.1
   .simp[setV,ij,h,g]
   .simp[setV,ij,h,g,e]
theorem zhX(a b:List (List UInt8))(s:List UInt8):zfE (a++b) s=(zfE a s||zfE b s):=by unfold zfE;rw[xO]
theorem rq(a s:List UInt8):zfE [a] s=decide (s=a):=by
 unfold zfE;simp only[oG,List.any_nil,gK];by_cases h:s=a
 .simp[h]
 .have:¬a=s:=fun e=>h e.symm;simp[h,this]
theorem JX(s:zfD):∀(l:List Fu) (m:List (zfD×Int)),ij (zg6 l m) s=(ij m s||zfE (l.map (·.name)) s)
 |[],m=>by simp[zg6,zfE]
 |f::l,m=>by
  rw[zg6,JX s l,JW,dE,show f.name::l.map (·.name)=[f.name]++l.map (·.name)from rfl,zhX,rq];cases decide (s=f.name)<;>cases ij m s<;>simp
theorem JY(s:zfD):∀(l:List Fu) (m:List (zfD×Int)),zfE (l.map (·.name)) s=false->em (zg6 l m) s=em m s
 |[],m,_=>rfl
 |f::l,m,h=>by
  rw[dE,show f.name::l.map (·.name)=[f.name]++l.map (·.name)from rfl,zhX,rq,gG,i4]at h;rw[zg6,JY s l _ h.2,uf,af h.1]
theorem AR:∀(l seen:List (List UInt8)),zfW seen l=false->∀s,zfE seen s=true->zfE l s=false
 |[],_,_,_,_=>rfl
 |a::l,seen,h,s,hs=>by
  rw[zfW,gG]at h;rw[show a::l=[a]++l from rfl,zhX,rq,AR l _ h.2 s (by rw[zhX,hs];rfl),gK,i4];intro e;rw[<-e]at h;rw[hs]at h;simp at h
theorem JZ:∀(l:List Fu) (s:List UInt8) (i:Int),0<=i->(zfE (l.map (·.name)) s=decide (0<=zgz l s i))
 |[],s,i,_=>by simp[zfE,zgz]
 |f::l,s,i,hi=>by
  rw[dE,show f.name::l.map (·.name)=[f.name]++l.map (·.name)from rfl,zhX,rq,zgz];by_cases h:f.name=s
  .rw[aq h,dt h.symm,o0];simpa using hi
  .rw[af h,d6 (fun e=>h e.symm),gH,JZ l s (i+1) ac]
theorem J0(p:Pr)(s:zfD):∀(l:List Fu) (seen:List (List UInt8)) (m:List (zfD×Int)) (i:Nat),p.funcs.drop i=l->zfW seen (l.map (·.name))=false->0<=zgz l s i ->
 ∃f,p.funcs[(zgz l s i).toNat]?=some f/\em (zg6 l m) s=f.params.length
 |[],_,_,i,_,_,h=>by simp[zgz]at h
 |f::l,seen,m,i,hd,hn,h=>by
  have O:i<p.funcs.length:=by
   have:=kz List.length hd;simp at this;omega
  rw[gW O,eB]at hd;rw[dE,zfW,gG]at hn;rw[zgz]at h⊢;by_cases e:f.name=s
  .rw[aq e];refine⟨f,?_,?_⟩
   .rw[gV,aR O,hd.1]
   .have Z:zfE (l.map (·.name)) s=false:=AR _ _ hn.2 s JH;rw[zg6,JY s l _ Z,uf,aq e.symm]
  .rw[af e]at h⊢;exact J0 p s l (seen++[f.name]) _ (i+1) hd.2 hn.2 h
theorem ZP(p:Pr)(s:zfD):ij (zg6 p.funcs []) s=decide (0<=zgz p.funcs s 0):=by
 rw[JX,JZ _ _ 0 ac];rfl
theorem ZQ{p:Pr}(hd:zfW [] (jJ p)=false){s:zfD}(h:0<=zgz p.funcs s 0):em (zg6 p.funcs []) s=py p s:=by
 obtain⟨f,i,g⟩:=J0 p s p.funcs [] [] 0 rfl hd h;have L:p.funcs[(zgz p.funcs s 0).toNat]?=some f:=i;rw[g,py,L];rfl
def mT(K:List (zfD×Int))(vs Z:List (List UInt8))(x:St)(_:Int)(w:Bool):Bool×Bool:=
 if x.kind=1 then (zfE vs x.name,w)
 else if x.kind=2 then (zfE Z x.name,w)
 else if x.kind=6 then (ij K x.to&&zfE vs x.name,w||(ij K x.to && !decide (em K x.to=(x.args.length:Int))))
 else (true,w)
def rr(Z:List (zfD×Int))(K:List (List UInt8)):List Fu->Bool->Int
 |[],w=>if w=true then 5 else 0
 |f::fs,w=>if oE (fun x _=>ii (f.params++f.locals) K x) f=true/\(zgQ (mT Z (f.params++f.locals) K) f.body 0 w).1=true then rr Z K fs (zgQ (mT Z (f.params++f.locals) K) f.body 0 w).2 else 3
def ug(p:Pr):Int:=rr (zg6 p.funcs []) (zgb p) p.funcs false
def ED(p:Pr):Int:=if lj p=false then 6 else if ja p=false then 2 else if oL p=true then 4 else ug p
mutual
theorem EE(vs K:List (List UInt8)):∀(x:Ex) (d:Int),mh (fun x _=>ii vs K x) x d=eW vs K x
 | .mk k n s o V,d=>by rw[mh,eW,EF vs K V,Bool.and_comm]
theorem EF(vs K:List (List UInt8)):∀(l:List Ex) (d:Int),zhs (fun x _=>ii vs K x) l d=zg5 vs K l
 |[],_=>rfl
 |x::l,d=>by rw[zhs,zg5,EE vs K x,EF vs K l]
end
section
variable (c:Sc)
mutual
def uh:St->Bool
 | .mk _ _ _ _ a v j C I=>eW c.vars c.an a&&eW c.vars c.an v&&zg5 c.vars c.an j&&nN C&&nN I
def nN:List St->Bool
 |[]=>true
 |x::l=>uh x&&nN l
end
mutual
def sG:St->Bool
 | .mk k J O n a v j C I=>kN c (.mk k J O n a v j C I)&&kO C&&kO I
def kO:List St->Bool
 |[]=>true
 |x::l=>sG x&&kO l
end
mutual
theorem ZR:∀(x:St) (d:Int),kG (oD fun x _=>ii c.vars c.an x) x d ()=(uh c x,())
 | .mk k J O n a v j C I,d=>by
   rw[kG,oD,uh];simp only[St.at_,St.value,St.args,EE,EF];cases h:eW c.vars c.an a&&eW c.vars c.an v&&zg5 c.vars c.an j
   .simp
   .simp only[AS C,fy];cases g:nN c C
    .simp
    .simp only[AS I,fy]
theorem AS:∀(l:List St) (d:Int),zgQ (oD fun x _=>ii c.vars c.an x) l d ()=(nN c l,())
 |[],_=>rfl
 |x::l,d=>by
  rw[zgQ,ZR x,nN];cases h:uh c x
  .simp
  .simp only[AS l,fy]
end
mutual
theorem ZS:∀x:St,gR c false x=(uh c x&&sG c x)
 | .mk k J O n a v j C I=>by
   rw[gR,uh,sG,AT C,AT I,pQ,px];simp only[St.at_,St.value,St.args];cases eW c.vars c.an a<;>cases eW c.vars c.an v<;>cases zg5 c.vars c.an j<;>cases kN c (.mk k J O n a v j C I)<;>cases nN c C<;>cases kO c C<;>cases nN c I<;>cases kO c I<;>rfl
theorem AT:∀l:List St,zgF c false l=(nN c l&&kO c l)
 |[]=>rfl
 |x::l=>by
  rw[zgF,nN,kO,ZS x,AT l];cases uh c x<;>cases sG c x<;>cases nN c l<;>cases kO c l<;>rfl
end
end
theorem ZT{p:Pr}(hd:zfW [] (jJ p)=false)(c:Sc)(Z:c.p=p)(x:St)(d:Int)(w:Bool):
 (kN c x=true->mT (zg6 p.funcs []) c.vars c.an x d w=(true,w || !mw p x))/\(kN c x=false->(mT (zg6 p.funcs []) c.vars c.an x d w).1=false):=by
 unfold mT kN mw;rw[Z];by_cases i:x.kind=1
 .have z:¬x.kind=6:=by omega
  simp only[i,cV,Int.reduceEq,gE,eJ,iC,jT,gK];exact⟨fun h=>by rw[h],fun h=>h⟩
 .by_cases z:x.kind=6
  .simp only[z,Int.reduceEq,cS,cV,jt,fy,Bool.not_not,ZP];cases h:decide (0<=zgz p.funcs x.to 0)
   .simp
   .rw[ZQ hd (qe h),jV,fy,fy];refine⟨fun h=>?_,fun h=>h⟩;rw[h];have e:decide ((py p x.to:Int)=(x.args.length:Int))=decide ((x.args.length:Int)=(py p x.to:Int)):=by
     by_cases q:(py p x.to:Int)=(x.args.length:Int)
     .rw[dt q,dt q.symm]
     .rw[d6 q,d6 (fun e=>q e.symm)]
    rw[e]
  .by_cases g:x.kind=2
   .simp only[g,Int.reduceEq,cS,cV,gE,eJ,iC,jT,gK];exact⟨fun h=>by rw[h],fun h=>h⟩
   .simp only[i,g,z,cS,gE,eJ,iC,jT,gK];exact⟨fun _=>au,fun h=>lL⟩
section
variable {p:Pr} (hd:zfW [] (jJ p)=false) (c:Sc) (hc:c.p=p)
include hd hc
mutual
theorem ZU:∀(x:St) (d:Int) (w:Bool),(sG c x=true->kG (mT (zg6 p.funcs []) c.vars c.an) x d w=(true,w || !gR c true x))/\(sG c x=false->(kG (mT (zg6 p.funcs []) c.vars c.an) x d w).1=false)
 | .mk k J O n a v j C I,d,w=>by
   have M:=ZT hd c hc (.mk k J O n a v j C I) d w;rw[kG,sG,gR,iJ,hc];cases z:kN c (.mk k J O n a v j C I)
   .have:=M.2 z;generalize mT _ _ _ _ _ _=r at this⊢;obtain⟨b,s⟩:=r;simp only at this;subst this;simp
   .rw[M.1 z];simp only[fy];have i:=AU C (cu (d+1)) (w || !mw p (.mk k J O n a v j C I));cases Z:kO c C
    .have:=i.2 Z;generalize zgQ _ C _ _=r at this⊢;obtain⟨b,s⟩:=r;simp only at this;subst this;simp
    .rw[i.1 Z];simp only[fy];have g:=AU I (cu (d+1)) ((w || !mw p (.mk k J O n a v j C I)) || !zgF c true C);cases m:kO c I
     .exact⟨fun h=>lL,fun _=>g.2 m⟩
     .refine⟨fun _=>?_,fun h=>lL⟩;rw[g.1 m]
      congr 1
      cases w<;>cases mw p (.mk k J O n a v j C I)<;>cases zgF c true C<;>cases zgF c true I<;>rfl
theorem AU:∀(l:List St) (d:Int) (w:Bool),(kO c l=true->zgQ (mT (zg6 p.funcs []) c.vars c.an) l d w=(true,w || !zgF c true l))/\(kO c l=false->(zgQ (mT (zg6 p.funcs []) c.vars c.an) l d w).1=false)
 |[],d,w=>by
  rw[zgQ,kO,zgF];exact⟨fun _=>au,fun h=>lL⟩
 |x::l,d,w=>by
  have M:=ZU x d w;rw[zgQ,kO,zgF];cases z:sG c x
  .have:=M.2 z;generalize kG _ x _ _=r at this⊢;obtain⟨b,s⟩:=r;simp only at this;subst this;simp
  .rw[M.1 z];simp only[fy];have g:=AU l d (w || !gR c true x);cases m:kO c l
   .exact⟨fun h=>lL,fun _=>g.2 m⟩
   .refine⟨fun _=>?_,fun h=>lL⟩;rw[g.1 m]
    congr 1
    cases w<;>cases gR c true x<;>cases zgF c true l<;>rfl
end
end
theorem J1{p:Pr}(hd:zfW [] (jJ p)=false):∀(l:List Fu) (w:Bool),rr (zg6 p.funcs []) (zgb p) l w=if l.any (mS p)=true then 3 else if (w||l.any (nM p))=true then 5 else 0
 |[],w=>by simp[rr]
 |f::fs,w=>by
  have j:=AU hd (gY p f) rfl f.body 0 w;have U:(gY p f).vars=f.params++f.locals:=rfl;have o:(gY p f).an=zgb p:=rfl;rw[U,o]at j;have Z:oE (fun x _=>ii (f.params++f.locals) (zgb p) x) f=(eW (f.params++f.locals) (zgb p) f.value&&nN (gY p f) f.body):=by
   rw[oE,EE];have:=AS (gY p f) f.body 0;rw[U,o]at this;rw[this]
  have O:mS p f=!(oE (fun x _=>ii (f.params++f.locals) (zgb p) x) f&&kO (gY p f) f.body):=by
   rw[mS,Z,AT,U,o];cases eW (f.params++f.locals) (zgb p) f.value<;>cases nN (gY p f) f.body<;>cases kO (gY p f) f.body<;>rfl
  rw[rr,oG,oG,O];cases i:oE (fun x _=>ii (f.params++f.locals) (zgb p) x) f
  .simp
  .cases g:kO (gY p f) f.body
   .simp[j.2 g]
   .rw[j.1 g];simp only[pR,cV,uW,jT,gH];rw[J1 hd fs]
    congr 2
    rw[nM];cases w<;>simp
theorem ZV(p:Pr):ED p=zhj p:=by
 unfold ED zhj;rw[ZL,JV];cases i:lx p
 .simp only[iC,l7,dm,cS];cases g:ja p
  .rfl
  .simp only[l7,cS];cases m:mR p
   .simp only[dm,cS];have hd:zfW [] (jJ p)=false:=by
     rw[<-JV,oL,gG,gG]at m;exact m.1.2
    rw[ug,J1 hd];simp
   .rfl
 .rfl
def tyP4e.tyF:=ad @cN (ad @dH (ad @lP (ad @nF (ad @iZ (ad @iO (ad @fO (ad @eR (ad @mM (ad @DP (ad @pV (ad @DM (@ZM))))))))))))
open tyP4e
noncomputable def J2:{c:SC // aH 28 (Tryz.f126.body.getD .skip)=c}:=by
 refine⟨?_,?_⟩;rotate_left
 .simp only[Tryz.f126,bS,aH,zfO,zfL,zfR,zfS,Nat.blt,Nat.ble];rfl
noncomputable def J3:{c:SC // aH 38 (Tryz.f125.body.getD .skip)=c}:=by
 refine⟨?_,?_⟩;rotate_left
 .simp only[Tryz.f125,bS,aH,zfO,zfL,zfR,zfS,Nat.blt,Nat.ble];rfl
noncomputable def J4:{c:SC // aH 35 (Tryz.f74.body.getD .skip)=c}:=by
 refine⟨?_,?_⟩;rotate_left
 .simp only[Tryz.f74,bS,aH,zfO,zfL,zfR,zfS,Nat.blt,Nat.ble];rfl
def gl(l:List (List UInt8)):List (AV×AV):=l.map fun s=>(.str s,.bool true)
def sH(l:List (List UInt8))(s:List UInt8):List (List UInt8):=if zfE l s=true then l else l++[s]
theorem xT(s:List UInt8):∀(l:List (List UInt8)) (i:Nat),(zfE l s=false->jB .string (.str s) (gl l) i=some none)/\(zfE l s=true->∃j,jB .string (.str s) (gl l) i=some (some (i+j,.bool true))/\(gl l).set j (.str s,.bool true)=gl l)
 |[],i=>⟨fun _=>rfl,fun h=>by simp[zfE]at h⟩
 |a::l,i=>by
  have m:zfE (a::l) s=(decide (s=a)||zfE l s):=by rw[show a::l=[a]++l from rfl,zhX,rq]
  by_cases h:s=a
  .subst h;rw[m,dt rfl,o0];refine⟨fun h=>lL,fun _=>⟨0,?_,?_⟩⟩
   .simp[gl,jB,nZ]
   .simp[gl]
  .have U:jB .string (.str s) (gl (a::l)) i=jB .string (.str s) (gl l) (i+1):=by
    show jB .string (.str s) ((.str a,.bool true)::gl l) i=_;have:(s == a)=false:=jv;simp[jB,nZ,this]
   rw[m,d6 h,gH,U];obtain⟨Z,Y⟩:=xT s l (i+1);refine⟨Z,fun q=>?_⟩;obtain⟨j,V,o⟩:=Y q;exact⟨j+1,by rw[V,show i+1+j=i+(j+1) by omega],by show(AV.str a,AV.bool true)::(gl l).set j _=_;rw[o];rfl⟩
theorem vr{H:Hp}{r:Nat}{l:List (List UInt8)}(J:H.get r=some (.map (gl l)))(s:List UInt8):zhv Tryz.prog H 178 (.map r) (.str s) false=some (.bool (zfE l s)):=by
 obtain⟨l1,V⟩:=JS (P:=Tryz.prog) (H:=H) (t:=178) (nm:=s) (z:=.bool false) Tryz.underlying178 aj aj J;cases h:zfE l s with
 |false=>rw[l1 ((xT s l 0).1 h)]
 |true=>obtain⟨j,i,g⟩:=(xT s l 0).2 h;rw[V _ _ i]
theorem J5{H:Hp}{r:Nat}{l:List (List UInt8)}(J:H.get r=some (.map (gl l)))(s:List UInt8):jj Tryz.prog H 178 (.map r) (.str s) (.bool true)=some (H.set r (.map (gl (sH l s)))):=by
 obtain⟨l1,V⟩:=EA (P:=Tryz.prog) (H:=H) (t:=178) (nm:=s) (x:=.bool true) Tryz.underlying178 aj J;cases h:zfE l s with
 |false=>rw[l1 ((xT s l 0).1 h),sH,h];simp[gl]
 |true=>obtain⟨j,i,g⟩:=(xT s l 0).2 h;rw[V _ _ i,b9,g,sH,aq h]
def qf(x:List (List (List UInt8))):List AV:=[.lst (x.map fun l=>[jp l])]
theorem ZW(x y:List (List (List UInt8)))(h:qf x=qf y):x=y:=by
 simp only[qf,eB,AV.lst.injEq,a0]at h;exact ml (fun a _ b e=>by simp only[eB,AV.lst.injEq,a0]at e;exact Al e) h
def AW(x:List (List (List UInt8))):Prop:=x.length<2^60/\∀l∈x,l.length<2^60
theorem ZX(x:List (List (List UInt8))):fq (.lst (x.map fun l=>[jp l])):=.map fun l _=>.cons (xw l) .nil
theorem ZY(ρ:Nat->Int)(x:List (List (List UInt8)))(hx:AW x):ce Tryz.prog ρ 126 (qf x) (.bool (zfW [] x.flatten)):=zg3 fit (pls:=pls) (l:=[]) trivial (.cons (ZX x) .nil) (.bool _) (by
 have hw:=zha 126;obtain⟨hx1,g⟩:=hx;rw[qf];refine zfz (M:=28) (rs:=[.tmp 2]) (hw.call _) hw.ice hw.froz Tryz.func126 rfl rfl J2.2 rfl ?_;dsimp only[J2,zft,Nat.reduceAdd];repeat' (first
  |(apply ah ?_;clear hK K)|apply Rx.o ?_|apply ak ?_|(apply zff fun K hK=>?_)|apply ay ?_|fail)
 refine zgs [3,9,10] [] 11 x.length (fun i E H=>∃seen,H.get 0=some (.map (gl seen))/\zfW [] x.flatten=zfW seen (x.drop i).flatten) eE ⟨[],vo,rfl⟩ ?_;rintro i E H2 hi Y V U C ⟨seen,L,Z⟩;(try simp only[zfT,zfB,a0,zfo,zfv,Nat.reduceBEq, *]at Y);(try simp only[zfB,zfv, *]at V);(try simp only[zfw,zgj,b9]at U);repeat' (first
  |(apply ah ?_;clear hK K)|apply Rx.o ?_|(apply bt (fun o z=>?_) (fun o z=>?_)<;>try(cases o;done))|apply ak ?_|(apply zff fun K hK=>?_)|apply ay ?_|apply zfh ?_|apply ax ?_|apply zfr ?_)
 .have O:i<x.length:=by simpa using o
  have hgx:x[i]?=some x[i]:=aR O;have hsm:=g _ (dI O);have m:(x.drop i).flatten=x[i]++(x.drop (i+1)).flatten:=by rw[gW O,qU]
  rw[m]at Z;clear m;generalize x[i]=J at *;repeat' (first
   |(apply ah ?_;clear hK K)|apply Rx.o ?_|apply ak ?_|(apply zff fun K hK=>?_)|apply ay ?_|fail)
  refine zgs [3,9,10,11,15,16] [] 17 J.length (fun j E H=>∃seen,H.get 0=some (.map (gl seen))/\zfW [] x.flatten=zfW seen (J.drop j++(x.drop (i+1)).flatten)) eE ⟨seen,L,Z⟩ ?_;clear L Z seen;rintro j E3 H3 hj Y V U C ⟨seen,L,Z⟩;(try simp only[zfT,zfB,a0,zfo,zfv,Nat.reduceBEq, *]at Y);(try simp only[zfB, *]at V);(try simp only[zfw,zfI,zgj,b9,Nat.reduceAdd]at U);repeat' (first
   |(apply ah ?_;clear hK K)|apply Rx.o ?_|(apply bt (fun o z=>?_) (fun o z=>?_)<;>try(cases o;done))|apply ak ?_|(apply zff fun K hK=>?_)|apply ay ?_|apply zfh ?_|apply zfr ?_)
  .have I:j<J.length:=by simpa using o
   have hgx2:J[j]?=some J[j]:=aR I;have m:zfW seen (J.drop j++(x.drop (i+1)).flatten)=(zfE seen J[j]||zfW (seen++[J[j]]) (J.drop (j+1)++(x.drop (i+1)).flatten)):=by rw[gW I];rfl
   have hlk:=vr L J[j];have hup:=J5 L J[j];repeat' (first
    |(apply ah ?_;clear hK K)|apply Rx.o ?_|apply ct ?_|(apply bt (fun o z=>?_) (fun o z=>?_)<;>try(cases o;done))|apply ak ?_|(apply zff fun K hK=>?_)|apply zfh ?_|apply ax ?_|fail)
   .all_goals (refine⟨zfj,_,zfq,?_⟩;try simp only[zfi])
    rw[Z,m];(try simp only[iQ]at *);simp only[*,o0,]
   .refine⟨ac,eL,eL,zf4,JI,?_⟩;refine⟨sH seen J[j],by rw[aQ,aq dR],?_⟩;rw[Z,m,sH];(try simp only[iQ]at *);simp only[*,gH,];rfl
  .have hje:j=J.length:=by simp at o;omega
   repeat' (first
    |(apply ah ?_;clear hK K)|fail)
   refine⟨ac,eL,eL,zf4,AJ,?_⟩;exact⟨seen,L,by rw[Z,hje,nI,oo]⟩
 .all_goals (refine⟨zfj,_,zfq,?_⟩;try simp only[zfi])
  have hie:i=x.length:=t9;rw[Z,hie,nI];rfl)
def sI(l:List (List UInt8)):AV:=if l=[]then .nilS else jp l
def qh(H:Hp)(v:AV)(l:List (List UInt8))(lo:Nat):Prop:=(v=.nilS/\l=[])\/(l≠[]/\oH H v l lo)
theorem qh.n{H:Hp}{v:AV}{l:List (List UInt8)}{lo:Nat}(h:qh H v l lo):p9 H v l lo:=h.imp id fun h=>h.2
theorem qh.keep{H H':Hp}{v:AV}{l:List (List UInt8)}{lo:Nat}(h:qh H v l lo)(z:H.next<=H'.next)(J:∀k,zfU v k->H'.get k=H.get k):qh H' v l lo:=h.imp id fun h=>⟨h.1,h.2.keep z J⟩
theorem J6(H:Hp)(n:Nat):∀l:List (List UInt8),iceL (iceV H (n+1)) (l.map .str)=some (l.map .str)
 |[]=>rfl
 |a::l=>by
  have:=J6 H n l;have e:iceV H (n+1) (.str a)=some (.str a):=rfl;simp only[dE,iceL,e,this]
theorem qh.iceV{H:Hp}{v:AV}{l:List (List UInt8)}{lo:Nat}(h:qh H v l lo)(n:Nat):iceV H (n+2) v=some (sI l):=by
 rcases h with⟨rfl,rfl⟩|⟨M,r,V,rfl,Z,_⟩
 .rfl
 .have e:Ab.iceV H (n+2) (.sl r 0 l.length 1)=match H.get r with
   |some (.cells Y _ _)=>match iceL (Ab.iceV H (n+1)) ((Y.drop 0).take (l.length*1))with
    |some g=>if g.length=l.length*1 then some (.lst (jN 1 l.length g))else none
    |none=>none
   |_=>none:=rfl
  rw[e,Z];simp only[fo,kX];rw[fN au,J6];simp only[cO,cV,Y8];rw[sI,af M]
theorem J7(n:Nat)(l:List (List UInt8)):cF (n+2) (sI l)=jp l:=by
 unfold sI;split
 .rename_i h;subst h;rfl
 .show AV.lst ((l.map fun s=>[AV.str s]).map fun J=>J.map (cF (n+1)))=_;rw[tD];rfl
set_option maxRecDepth 100000 in
theorem ZZ(ρ:Nat->Int)(p:Pr)(hz:p.sz<2^36):ce Tryz.prog ρ 125 (gh p) (.tup [jp (zgb p),jp (jJ p)]):=D5 (n:=3) (xt (r:=.tup [sI (zgb p),sI (jJ p)]) (m:=3) (cfg:=zfn pls []) fit (pO ρ) (fun f args r h=>by simp[zfn,zgw]at h) (.cons (.agg p.pure) .nil) (by
 have hw:=zha 125;have U:(zfn pls []).keep 125=false:=rfl;have hpz:p.sz=1+jC p.arrays+ig p.funcs:=rfl;have hla:=tQ p.arrays;have hlf:=tO p.funcs;rw[gh];refine zfz (M:=38) (rs:=[.tmp 2,.tmp 3]) (hw.call _) hw.ice hw.froz Tryz.func125 rfl rfl J3.2 rfl ?_;dsimp only[J3,zft,Nat.reduceAdd];repeat' (first
  |(apply ah ?_;clear hK K)|apply Rx.o ?_|apply ak ?_|(apply zff fun K hK=>?_)|apply ay ?_|fail)
 refine zgs [1,2,3,5,11,12] [0] 13 p.arrays.length (fun i E H=>∃v,E.at 4=v/\qh H v ((zgb p).take i) 1) eE ⟨.nilS,eE,.inl ⟨rfl,rfl⟩⟩ ?_;rintro i E J hi C Z hnH hsI ⟨v,k4,hv⟩;(try simp only[zfT,zfB,a0,zfo,zfv,Nat.reduceBEq, *]at C);(try simp only[zfT,zfB,a0,zfo,zfv, *]at Z);(try simp only[zfw,zgj,b9]at hnH);have hB0:(0 == J.next)=false:=zfN ac;have hC0:(J.next == 0)=false:=zfN ac;repeat' (first
  |(apply ah ?_;clear hK K)|apply Rx.o ?_|(apply bt (fun O z=>?_) (fun O z=>?_)<;>try(cases O;done))|apply ak ?_|(apply zff fun K hK=>?_)|apply ay ?_|apply zfh ?_|apply zfr ?_)
 .have hlt:i<p.arrays.length:=by simpa using O
  have hgx:p.arrays[i]?=some p.arrays[i]:=aR hlt;have j:(zgb p).take (i+1)=(zgb p).take i++[p.arrays[i].name]:=by rw[zgb,oA,fT,hgx];rfl
  repeat' (first
   |(apply ah ?_;clear hK K)|apply Rx.o ?_|apply ct ?_|(apply zff fun K hK=>?_)|fail)
  generalize o:Hp.alloc (Hp.set _ _ _) _=Y;have nb:Y.next=J.next+2:=by rw[<-o];rfl
  have g:∀k,k<J.next->Y.get k=J.get k:=fun k V=>JJ
  have gb:Y.get (J.next+1)=some (.cells [.str p.arrays[i].name] 0 true):=by rw[<-o,zfk,aq dR]
  clear o;have hvb:p9 Y v ((zgb p).take i) 1:=hv.n.keep ac fun k V=>g k (hv.n.lt V).2;obtain⟨v5,H5,a5,s5,n5,f5,o5⟩:=Jl (r:=J.next+1) (imm:=0) p.arrays[i].name hvb ac gb cC;have n5':Y.next<=H5.next:=ac
  clear n5;have g50:H5.get 0=some (.cells p.cells 0 true):=by rw[f5 0 ac,g 0 ac];exact Z
  refine sd zhx zhx (by rw[U];exact a5) ?_;repeat' (first
   |(apply ah ?_;clear hK K)|apply Rx.o ?_|(apply zff fun K hK=>?_)|fail)
  refine⟨ac,eL,eL,zf4,Ep,?_⟩;exact⟨v5,eE,.inr ⟨r8,by rw[j];exact s5⟩⟩
 .have hie:i=p.arrays.length:=by simp at O;omega
  have L:(zgb p).take i=zgb p:=fN (by simp[zgb];omega);rw[L]at hv;clear L hie hsI hi;repeat' (first
   |(apply ah ?_;clear hK K)|fail)
  have c3:∀k,zfU v k->k<J.next:=fun k V=>(hv.n.lt V).2
  refine zgs [2,3,4,24,25] [0] 26 p.funcs.length (fun i E H=>∃u,E.at 5=u/\qh H u ((jJ p).take i) J.next/\qh H v (zgb p) 1) eE ⟨.nilS,eE,.inl ⟨rfl,rfl⟩,hv⟩ ?_;rintro i E I hi C Z hnH hsI ⟨u,k5,hu,hv3⟩;(try simp only[zfT,zfB,a0,zfo,zfv,Nat.reduceBEq, *]at C);(try simp only[zfT,zfB,a0, *]at Z);(try simp only[zfw,zfI,zgj,b9,Nat.reduceAdd]at hnH);have hB0:(0 == I.next)=false:=zfN ac;have hC0:(I.next == 0)=false:=zfN ac;repeat' (first
   |(apply ah ?_;clear hK K)|apply Rx.o ?_|(apply bt (fun O z=>?_) (fun O z=>?_)<;>try(cases O;done))|apply ak ?_|(apply zff fun K hK=>?_)|apply ay ?_|apply zfh ?_|apply ax ?_|apply zfr ?_)
  .have hlt:i<p.funcs.length:=by simpa using O
   have hgx:p.funcs[i]?=some p.funcs[i]:=aR hlt;have j:(jJ p).take (i+1)=(jJ p).take i++[p.funcs[i].name]:=by rw[jJ,oA,fT,hgx];rfl
   repeat' (first
    |(apply ah ?_;clear hK K)|apply Rx.o ?_|apply ct ?_|(apply zff fun K hK=>?_)|fail)
   generalize o:Hp.alloc (Hp.set _ _ _) _=Y;have nb:Y.next=I.next+2:=by rw[<-o];rfl
   have g:∀k,k<I.next->Y.get k=I.get k:=fun k V=>JJ
   have gb:Y.get (I.next+1)=some (.cells [.str p.funcs[i].name] 0 true):=by rw[<-o,zfk,aq dR]
   clear o;have hub:p9 Y u ((jJ p).take i) J.next:=hu.n.keep ac fun k V=>g k (hu.n.lt V).2
   obtain⟨v5,H5,a5,s5,n5,f5,o5⟩:=Jl (r:=I.next+1) (imm:=0) p.funcs[i].name hub ac gb cC;have n5':Y.next<=H5.next:=ac
   clear n5;have g50:H5.get 0=some (.cells p.cells 0 true):=by rw[f5 0 ac,g 0 ac];exact Z
   refine sd zhx zhx (by rw[U];exact a5) ?_;repeat' (first
    |(apply ah ?_;clear hK K)|apply Rx.o ?_|(apply zff fun K hK=>?_)|fail)
   refine⟨ac,eL,eL,zf4,ua,?_⟩;exact⟨v5,eE,.inr ⟨r8,by rw[j];exact s5⟩,hv3.keep ac fun k V=>by rw[f5 k (c3 k V),g k (by have:=c3 k V;omega)]⟩
  .have hie:i=p.funcs.length:=by simp at O;omega
   have L:(jJ p).take i=jJ p:=fN (by simp[jJ];omega);rw[L]at hu;repeat' (first
    |(apply ah ?_;clear hK K)|fail)
   all_goals (refine⟨zfj,_,zfq,?_⟩;try simp only[zfi])
   have e1:=hv3.iceV (n:=0);have e2:=hu.iceV (n:=0);show(match iceL (iceV I 2) [v,u]with|some ds=>some (AV.tup ds)|none=>none)=_;simp only[iceL,e1,e2])) (by
 show AV.tup [cF 2 (sI (zgb p)),cF 2 (sI (jJ p))]=_;rw[J7,J7])
noncomputable def EG:En:=⟨125,false,dc (fun p=>p.sz<2^36) gh fun p=>.tup [jp (zgb p),jp (jJ p)]⟩
theorem J8(ρ:Nat->Int):zgE Tryz.prog ρ EG:=zgO fun p hp=>ZZ ρ p hp
noncomputable def EH:En:=⟨126,true,dc AW qf fun x=>.bool (zfW [] x.flatten)⟩
theorem Z0(ρ:Nat->Int):zgE Tryz.prog ρ EH:=zgO fun x C=>ZY ρ x C
theorem J9(x:List (List (List UInt8))):(x.map fun l=>[jp l]).flatten=x.map jp:=by
 induction x with
 |nil=>rfl
 |cons a l ih=>simp[ih]
theorem Z1{H:Hp}{r imm:Nat}{x:List (List (List UInt8))}(J:H.get r=some (.cells (x.map jp) imm true))(hr:r<H.next)(I:imm<=x.length):
 ∃H',kn (iz 100) [.sl r 0 x.length 1] H=some (qf x,H')/\Icy (fun k=>k=r) H H':=by
 refine zgf.iceL (S:=fun k=>k=r) (n:=100) (m:=qf x) ⟨?_,trivial⟩;have h:=zgf.rows (S:=fun k=>k=r) (n:=99) (H:=H) (r:=r) (z:=1) (imm:=imm) (tip:=true) (a:=x.map fun l=>[jp l]) (b:=x.map fun l=>[jp l]) rfl hr (by rw[J9];exact J) (by rw[J9];simpa using I) au (cR.refl fun a o=>cR.refl fun c hc=>by
  obtain⟨l,_,rfl⟩:=lc.1 o;rw[AK]at hc;subst hc;exact qc ⟨xw l,trivial⟩)
 rw[cO]at h;exact h
theorem EI{l:List En}(L:∀C,zgw l 126 C=EH.sp C)(I:lQ l 126=true){H:Hp}{r imm:Nat}{x:List (List (List UInt8))}(J:H.get r=some (.cells (x.map jp) imm true))(hr:r<H.next)(K:imm<=x.length)(Z:AW x):
 zfs Tryz.prog (zfn pls l) 126 [.sl r 0 x.length 1] H fun v H'=>v=.bool (zfW [] x.flatten)/\Icy (fun k=>k=r) H H':=by
 obtain⟨H',i,g⟩:=Z1 J hr K;refine aS ?_ (YP (enc:=qf) (out:=fun x=>.bool (zfW [] x.flatten)) ZW (x:=x) L I Z (H':=H') (fun y _ e=>by simp[qf]at e) i);rintro v _ ⟨rfl,rfl⟩;exact⟨rfl,g⟩
theorem EJ(H:Hp)(a:List (List AV)):zgW Tryz.prog H 211 1 [(0,.lst a)]=some (.sl H.next 0 1 1,H.alloc (.cells [.lst a] 0 true)):=aj
theorem Z2(H:Hp)(a b:List (List AV)):zgW Tryz.prog H 211 2 [(0,.lst a),(1,.lst b)]=some (.sl H.next 0 2 1,H.alloc (.cells [.lst a,.lst b] 0 true)):=aj
theorem Z3(H:Hp)(a b c:List (List AV)):zgW Tryz.prog H 211 3 [(0,.lst a),(1,.lst b),(2,.lst c)]=some (.sl H.next 0 3 1,H.alloc (.cells [.lst a,.lst b,.lst c] 0 true)):=aj
noncomputable def EK:List En:=[EG,EH]
theorem Z4(ρ:Nat->Int):iF Tryz.prog ρ EK:=⟨J8 ρ,Z0 ρ,trivial⟩
set_option maxRecDepth 100000 in
theorem Z5(ρ:Nat->Int)(p:Pr)(hz:p.sz<2^36):ce Tryz.prog ρ 74 (gh p) (.bool (oL p)):=zg3 fit (pls:=pls) (Z4 ρ) (.cons (.agg p.pure) .nil) (.bool _) (by
 have j:Plain (zfn pls EK) 74:=zgK (fun _=>rfl) rfl;have kd:∀H,zfs Tryz.prog (zfn pls EK) 125 [.agg p.cells] H fun v H'=>v=.tup [jp (zgb p),jp (jJ p)]/\H'=H:=fun H=>zgL (enc:=gh) (out:=fun p=>.tup [jp (zgb p),jp (jJ p)]) sD (x:=p) rfl hz;have hpz:p.sz=1+jC p.arrays+ig p.funcs:=rfl;have hla:=tQ p.arrays;have hlf:=tO p.funcs;have hal:(zgb p).length=p.arrays.length:=by simp[zgb]
 have hfl:(jJ p).length=p.funcs.length:=by simp[jJ]
 have hx0:∀a b,Ab.extract (.tup [a,b]) 0=some a:=fun _ _=>rfl;have hx1:∀a b,Ab.extract (.tup [a,b]) 1=some b:=fun _ _=>rfl;rw[gh];refine zfz (M:=35) (rs:=[.tmp 2]) (j.call _) j.ice j.froz Tryz.func74 rfl rfl J4.2 rfl ?_;dsimp only[J4,zft,Nat.reduceAdd];have J:=@EJ;repeat' (first
  |(apply ah ?_;clear hK K)|apply Rx.o ?_|(apply kF ?_;first|refine Rx.k (kd _) ?_)|apply ak ?_|(apply zff fun K hK=>?_)|fail)
 refine aU rfl aV aW ?_;simp only[bi];refine aS ?_ (EI (x:=[zgb p]) (imm:=0) (fun _=>rfl) rfl vo (cI _) au ⟨au,cC⟩);rintro v H2 ⟨rfl,U⟩;have n2:=U.next
 simp only[zfw,zgj]at n2;have g:H2.get 0=some (.cells p.cells 0 true):=by rw[U.out 0 au,zfk,af au,zfk,aq dR]
 have n2':2<=H2.next:=ac
 clear U n2;rw[show([zgb p]:List (List (List UInt8))).flatten=zgb p by simp];dsimp only[zfp];have J:=@EJ;repeat' (first
  |(apply ah ?_;clear hK K)|apply Rx.o ?_|(apply dr (fun hg V=>?_) (fun hg V=>?_)<;>try(cases hg;done))|(apply bt (fun o z=>?_) (fun o z=>?_)<;>try(cases o;done))|apply ak ?_|(apply zff fun K hK=>?_)|apply ax ?_|fail)
 .refine aU rfl aV aW ?_;simp only[bi];refine aS ?_ (EI (x:=[jJ p]) (imm:=0) (fun _=>rfl) rfl vo (cI _) au ⟨au,cC⟩);rintro v H3 ⟨rfl,U⟩;have n3:=U.next
  simp only[zfw]at n3;have g30:H3.get 0=some (.cells p.cells 0 true):=by rw[U.out 0 ac,zfk,af ac];exact g
  have n3':2<=H3.next:=ac
  clear U n3;rw[show([jJ p]:List (List (List UInt8))).flatten=jJ p by simp];dsimp only[zfp];repeat' (first
   |(apply ah ?_;clear hK K)|apply Rx.o ?_|(apply bt (fun o z=>?_) (fun o z=>?_)<;>try(cases o;done))|apply ak ?_|(apply zff fun K hK=>?_)|apply ay ?_|apply zfh ?_|apply ax ?_|fail)
  .all_goals (refine⟨zfj,_,zfq,?_⟩;try simp only[zfi])
   rw[oL];(try simp only[iQ]at *);simp only[ *,oK,]
  .refine zgs [3,21,22] [0] 23 p.funcs.length (fun i E H=>(p.funcs.any fun f=>zfW [] (zgb p++(f.params++f.locals)))=((p.funcs.drop i).any fun f=>zfW [] (zgb p++(f.params++f.locals)))) eE au ?_;rintro i E L hi I Z C hsI Y;(try simp only[zfT,zfB,a0,zfo,zfv,Nat.reduceBEq, *]at I);(try simp only[zfT,zfB,a0, *]at Z);(try simp only[zfw,zfI,zgj,b9,Nat.reduceAdd]at C);have hB0:(0 == L.next)=false:=zfN ac;have hC0:(L.next == 0)=false:=zfN ac;repeat' (first
    |(apply ah ?_;clear hK K)|apply Rx.o ?_|(apply bt (fun o z=>?_) (fun o z=>?_)<;>try(cases o;done))|apply ak ?_|(apply zff fun K hK=>?_)|apply ay ?_|apply zfh ?_|apply ax ?_|apply zfr ?_)
   .have O:i<p.funcs.length:=by simpa using o
    have hgx:p.funcs[i]?=some p.funcs[i]:=aR O;have hsm:=pY (dI O);have hsz:p.funcs[i].sz=1+p.funcs[i].name.length+zgU p.funcs[i].params+zgU p.funcs[i].locals+zf0 p.funcs[i].body+p.funcs[i].value.sz:=rfl;have hpl:=sf p.funcs[i].params;have hll:=sf p.funcs[i].locals;have m:((p.funcs.drop i).any fun f=>zfW [] (zgb p++(f.params++f.locals)))=(zfW [] (zgb p++(p.funcs[i].params++p.funcs[i].locals))||((p.funcs.drop (i+1)).any fun f=>zfW [] (zgb p++(f.params++f.locals)))):=by rw[gW O,oG]
    have J:=@Z3;repeat' (first
     |(apply ah ?_;clear hK K)|apply Rx.o ?_|apply ct ?_|apply ak ?_|(apply zff fun K hK=>?_)|fail)
    refine aU rfl aV aW ?_;simp only[bi];refine aS ?_ (EI (x:=[zgb p,p.funcs[i].params,p.funcs[i].locals]) (imm:=0) (fun _=>rfl) rfl vo (cI _) au ⟨au,cC⟩);rintro v H5 ⟨rfl,U⟩;have n5:=U.next
    simp only[zfw,zfI]at n5;have g50:H5.get 0=some (.cells p.cells 0 true):=by rw[U.out 0 (by intro e;change (0:Nat)=_ at e;(try simp only[zfI,zfw]at e);omega),zfk,af (by(try simp only[zfI,zfw]);omega),aQ,af ac,zfk,af ac];exact Z
    have n5':L.next<=H5.next:=ac
    clear U n5;rw[show([zgb p,p.funcs[i].params,p.funcs[i].locals]:List (List (List UInt8))).flatten=zgb p++(p.funcs[i].params++p.funcs[i].locals) by simp];dsimp only[zfp];repeat' (first
     |(apply ah ?_;clear hK K)|apply Rx.o ?_|(apply bt (fun o z=>?_) (fun o z=>?_)<;>try(cases o;done))|apply ak ?_|(apply zff fun K hK=>?_)|apply zfh ?_|apply ax ?_|fail)
    .all_goals (refine⟨zfj,_,zfq,?_⟩;try simp only[zfi])
     rw[oL,Y,m];(try simp only[iQ]at *);simp only[ *,gK,oK,]
    .refine⟨ac,eL,eL,zf4,ua,?_⟩;rw[Y,m];(try simp only[iQ]at *);simp only[*,gH,]
   .all_goals (refine⟨zfj,_,zfq,?_⟩;try simp only[zfi])
    have hie:i=p.funcs.length:=t9;rw[hie,nI]at Y;have hJ2:(p.funcs.any fun f=>zfW [] (zgb p++(f.params++f.locals)))=false:=Y;rw[oL,hJ2];(try simp only[iQ]at *);simp only[*,gK,]
 .repeat' (first
   |(apply ah ?_;clear hK K)|fail)
  all_goals (refine⟨zfj,_,zfq,?_⟩;try simp only[zfi])
  rw[oL];(try simp only[iQ]at *);simp only[*,o0,])
end
section
namespace tyV5
end tyV5
open tyV5
def zgZ(n:Nd):List UInt8:=sr (tZ n)
def sJ(l:List Nd):Bool:=!zfW [] (l.map zgZ)
end
section
def tyV6.tyF:=ad @ej (ad @cN (ad @dH (ad @iD (ad @eQ (ad @lP (ad @xp (ad @xq (ad @u5 (ad @li (ad @Xm (@Xr)))))))))))
open tyV6
theorem Ka{l:List Nd}{i:Nat}{n:Nd}(z:l[i]?=some n)(h:zgu l i≠0):NdOk n i/\(n.op=30->0<=n.imm/\n.imm<=7)/\ZF n:=by
 have I:i<l.length:=by
  by_cases c:i<l.length
  .exact c
  .rw[gI ac]at z;cases z
 have M:=h;rw[vm I]at h;obtain⟨s,Y,g,m⟩:=Ea z h;have L:=ss Y;have j:=rk Y;have V:n.op=3->0<=n.imm/\n.imm<=255:=fun e=>by
  rw[zf2,af ac,af ac,zgt,af ac,aq e,co,iB,iB]at m;exact m
 have O:n.op=30->0<=n.imm/\n.imm<=7:=fun e=>by
  rw[zf2,af ac,af ac,zgt,af ac,af ac,af ac,aq e,co,iB,iB]at m;exact m
 have U:n.op=31->0<=n.imm/\n.imm<=15:=fun e=>by
  rw[zf2,af ac,af ac,zgt,af ac,af ac,af ac,af ac,aq e,co,iB,iB]at m;exact m
 refine⟨⟨fun k Z=>⟨(j k Z).1,(j k Z).2.1⟩,V,fun e=>?_⟩,O,U,V⟩;have a:bK 31=(-1,true):=aD;rw[e,zfY,a]at g;simp only[l7,cS]at g;rw[af ac,aq trivial]at g;simp only[iX]at g;exact⟨(U e).1,(U e).2,ac,ac⟩
theorem Z6{l:List Nd}{i:Nat}(h:i<l.length):(zga l l.length)[i]?=some (zgu l i):=by
 have:=Az (l:=l) h (aE _);rw[dd]at this;have L:i<(zga l l.length).length:=by rw[zh8];exact h
 rw[aR L]at this⊢;exact kz some this
def vt(u:Un)(g:Gr)(i:Nat):Bool:=match g.nodes[i]? with
 |some n=>decide (zgu g.nodes i≠0)&&jY u g n
 |none=>true
def zhk(l:List Nd)(i:Int):Nat:=(jG l l.length).getD i.toNat 0
def kQ(u:Un)(g:Gr):Bool:=
 (decide (0<=g.params)&&decide (g.params<=6)&&decide ((g.nodes.length:Int)<=2000))&&((List.range g.nodes.length).all (vt u g)) &&
 (sJ g.nodes&&zhV g.nodes&&decide (0<=g.value)&&decide (g.value<g.nodes.length)&&decide (0<=g.state)&&decide (g.state<g.nodes.length)) &&
 (decide (zgu g.nodes g.value=1)&&decide (zgu g.nodes g.state=2)&&decide (zhk g.nodes g.value=0)&&decide (zhk g.nodes g.state=0))
structure VgX where
 u:Un
 g:Gr
def ui(x:VgX):List AV:=[.agg x.u.cells,.agg x.g.cells]
theorem Z7(x y:VgX)(h:ui x=ui y):x=y:=by
 obtain⟨a,b⟩:=x;obtain⟨L,o⟩:=y;simp only[ui,eB,AV.agg.injEq,a0]at h;rw[Un.inj h.1,Gr.inj h.2]
def Z8(x:VgX):Prop:=kK x.g.nodes/\x.u.arrays.length<2^30/\x.u.funcs.length<2^30
end
section
theorem Z9{l:List Ex}{i:Nat}{k:Ex}(M:eV l=true)(h:l[i]?=some k):gk k=true:=by
 induction l generalizing i with
 |nil=>simp at h
 |cons e V ih=>
  rw[eV,co]at M;cases i with
  |zero=>simp at h;subst h;exact M.1
  |succ i=>exact ih M.2 jv
theorem mU{Z:Type}(l:List Z){i:Nat}(h:i<l.length):∃k,l[i]?=some k:=⟨l[i],aR h⟩
section
variable (p:Pr) (fi:List (zfD × Int))
end
theorem Kb(s:zfD):∀(l:List Fu) (i:Nat) (m:List (zfD×Int)),zfE (l.map (·.name)) s=false->em (j5 l i m) s=em m s
 |[],_,m,_=>rfl
 |f::l,i,m,h=>by
  rw[dE,show f.name::l.map (·.name)=[f.name]++l.map (·.name)from rfl,zhX,rq,gG,i4]at h;rw[j5,Kb s l _ _ h.2,uf,af h.1]
theorem Kc(s:zfD):∀(l:List Fu) (seen:List (List UInt8)) (i:Nat) (m:List (zfD×Int)),zfW seen (l.map (·.name))=false->0<=zgz l s i->em (j5 l i m) s=zgz l s i
 |[],_,i,m,_,h=>by simp[zgz]at h
 |f::l,seen,i,m,hn,h=>by
  rw[dE,zfW,gG]at hn;rw[zgz]at h⊢;by_cases e:f.name=s
  .have Z:zfE (l.map (·.name)) s=false:=AR _ _ hn.2 s JH;rw[aq e,j5,Kb s l _ _ Z,uf,aq e.symm]
  .rw[af e]at h⊢;rw[j5];exact Kc s l (seen++[f.name]) (i+1) _ hn.2 h
structure Valid (p:Pr):Prop where
 ex:lx p=false
 wf:ja p=true
 du:mR p=false
 un:p.funcs.any (mS p)=false
 ba:p.funcs.any (nM p)=false
theorem ztK{p:Pr}(h:zhj p=0):Valid p:=by
 rw[zhj]at h;by_cases i:lx p=true
 .rw[aq i]at h;omega
 rw[af i]at h;by_cases g:ja p=false
 .rw[aq g]at h;omega
 rw[af g]at h;by_cases m:mR p=true
 .rw[aq m]at h;omega
 rw[af m]at h;by_cases O:p.funcs.any (mS p)=true
 .rw[aq O]at h;omega
 rw[af O]at h;by_cases K:p.funcs.any (nM p)=true
 .rw[aq K]at h;omega
 exact⟨by simpa using i,wC,uS,zA,by simpa using K⟩
theorem Valid.names{p:Pr}(h:Valid p):zfW [] (zgb p)=false/\zfW [] (jJ p)=false:=by
 have hd:=h.du;rw[mR,AQ,gG,gG]at hd;exact⟨hd.1,hd.2.1⟩
theorem EL:∀(l seen:List (List UInt8)),zfW seen l=false->l.Nodup
 |[],_,_=>AM
 |s::l,seen,h=>by
  rw[zfW,gG]at h;refine ub.2 ⟨fun V=>?_,EL l _ h.2⟩;have:=AR _ _ h.2 s (by rw[zhX,rq,dt rfl,AL]);rw[zfE,oZ]at this;exact this s V au
theorem Valid.nodup{p:Pr}(h:Valid p):(p.arrays.map (·.name)).Nodup:=EL _ _ h.names.1
structure Bd where
 l:List Nd
 vars:List Int
 state:Int
 loops:Nat
structure Cx where
 arrays:List Ar
 funcs:List Fu
 names:List zfD
def fZ(l:List Nd)(n:Nd):Nat:=l.findIdx fun x=>decide (x=n)
def iK(l:List Nd)(n:Nd):List Nd:=if fZ l n<l.length then l else l++[n]
def zfg(n:Nd)(s:Bd):Int×Bd:=(fZ s.l n,{s with l:=iK s.l n})
def cp:List zfD->zfD->Nat
 |[],_=>0
 |a::l,s=>if a=s then 0 else if zfE l s=true then cp l s+1 else 0
def zfA(c a b:Int)(s:Bd):Int×Bd:=if a=b then (a,s)else zfg ⟨22,0,[c,a,b]⟩ s
def my(V v:Int)(s:Bd):Bd:=let r:=zfg ⟨27,V,[s.state,v]⟩ s;{r.2 with state:=r.1}
def eK(len i:Int)(s:Bd):Bd:=
 let C:=zfg ⟨1,len,[]⟩ s
 let j:=zfg ⟨19,0,[i,C.1]⟩ C.2
 my 2 j.1 j.2
def mz(v:Int)(s:Bd):Bd:=
 let z:=zfg ⟨1,0,[]⟩ s
 let c:=zfg ⟨16,0,[v,z.1]⟩ z.2
 my 1 c.1 c.2
def ed(c:Cx):Nat->Ex->Bd->Option (Int×Bd)
 |0,_,_=>none
 |n+1,x,s=>
  if x.kind=1 then some (zfg ⟨1,x.n,[]⟩ s)
  else if x.kind=2 then (s.vars[cp c.names x.name]?).map fun v=>(v,s)
  else if x.kind=3 then
   (x.kids[0]?).bind fun k=>(ed c n k s).bind fun r=>(c.arrays[cp (c.arrays.map (·.name)) x.name]?).bind fun a=>
     let L:=eK a.len r.1 r.2
     some (zfg ⟨23,cp (c.arrays.map (·.name)) x.name,[L.state,r.1]⟩ L)
  else if x.kind=5 then
   (x.kids[0]?).bind fun k0=>(ed c n k0 s).bind fun zfK=>
   (x.kids[1]?).bind fun k1=>(ed c n k1 zfK.2).bind fun C=>
   (x.kids[2]?).bind fun Z=>(ed c n Z {C.2 with state:=zfK.2.state}).bind fun j=>
     let v:=zfA zfK.1 C.1 j.1 j.2
     let t:=zfA zfK.1 C.2.state v.2.state v.2
     some (v.1,{t.2 with state:=t.1})
  else
   (x.kids[0]?).bind fun k0=>(ed c n k0 s).bind fun zfK=>
     if x.kids.length=1 then some (zfg ⟨x.op,0,[zfK.1]⟩ zfK.2)
     else (x.kids[1]?).bind fun k1=>(ed c n k1 zfK.2).bind fun C=>
      some (zfg ⟨x.op,0,[zfK.1,C.1]⟩ (if x.op=7\/x.op=8 then mz C.1 C.2 else C.2))
def nO(c:Cx)(n:Nat):List Ex->Bd->Option (List Int×Bd)
 |[],s=>some ([],s)
 |x::l,s=>(ed c n x s).bind fun r=>(nO c n l r.2).bind fun j=>some (r.1::j.1,j.2)
def f0(i:List zfD):Nat->List St->List Bool->Option (List Bool)
 |0,_,_=>none
 |n+1,l,b=>match l with
  |[]=>some b
  |x::l=>
   if (x.kind=1\/x.kind=6)/\b.length<=cp i x.name then none
   else (f0 i n x.thn (if x.kind=1\/x.kind=6 then b.set (cp i x.name) true else b)).bind fun I=>(f0 i n x.els I).bind fun Y=>f0 i n l Y
def zgG(b:List Bool):List Nat:=(List.range b.length).filter fun i=>b.getD i false
def lU(c:Int)(a:List Int):Nat->Nat->Bd->Option Bd
 |0,_,s=>some s
 |k+1,i,s=>(a[i]?).bind fun x=>(s.vars[i]?).bind fun y=>
  let r:=zfA c x y s
  lU c a k (i+1) {r.2 with vars:=r.2.vars.set i r.1}
def ik(base:Int):List Nat->Nat->Bd->Bd
 |[],_,s=>s
 |w::ws,j,s=>let r:=zfg ⟨3,base+j,[]⟩ s;ik base ws (j+1) {r.2 with vars:=r.2.vars.set w r.1}
def fB(loop c:Int)(old:List Int):List Nat->Nat->Bd->Bd
 |[],_,s=>s
 |w::ws,j,s=>
  let f:=zfg ⟨25,j,[loop]⟩ s
  let m:=zfA c f.1 (old.getD w 0) f.2
  fB loop c old ws (j+1) {m.2 with vars:=m.2.vars.set w m.1}
section
variable (c:Cx)
mutual
def jH:Nat->St->Bd->Option Bd
 |0,_,_=>none
 |n+1,x,s=>
  if x.kind=1 then (ed c n x.value s).bind fun r=>if cp c.names x.name<r.2.vars.length then some {r.2 with vars:=r.2.vars.set (cp c.names x.name) r.1}else none
  else if x.kind=2 then (ed c n x.at_ s).bind fun i=>(ed c n x.value i.2).bind fun v=>(c.arrays[cp (c.arrays.map (·.name)) x.name]?).bind fun a=>
   let L:=eK a.len i.1 v.2
   let r:=zfg ⟨28,cp (c.arrays.map (·.name)) x.name,[L.state,i.1,v.1]⟩ L
   some {r.2 with state:=r.1}
  else if x.kind=3 then (ed c n x.value s).bind fun r=>(eC n x.thn r.2).bind fun a=>(eC n x.els {a with state:=r.2.state,vars:=r.2.vars}).bind fun b=>
   (lU r.1 a.vars b.vars.length 0 b).bind fun m=>
     let t:=zfA r.1 a.state m.state m
     some {t.2 with state:=t.1}
  else if x.kind=4 then j6 n x s
  else if x.kind=5 then (ed c n x.value s).bind fun v=>
   let r:=zfg ⟨29,0,[v.2.state,v.1]⟩ v.2
   some {r.2 with state:=r.1}
  else if x.kind=6 then (nO c n x.args s).bind fun V=>
   if 0<=zgz c.funcs x.to 0/\cp c.names x.name<V.2.vars.length then
    let r:=zfg ⟨30,zgz c.funcs x.to 0,V.2.state::V.1⟩ V.2
    let q:=zfg ⟨24,0,[r.1]⟩ {r.2 with state:=r.1}
    some {q.2 with vars:=q.2.vars.set (cp c.names x.name) q.1}
   else none
  else if x.kind=7 then let z:=zfg ⟨1,0,[]⟩ s;some (my (cu (16+x.n)) z.1 z.2)
  else some s
def eC:Nat->List St->Bd->Option Bd
 |0,_,_=>none
 |n+1,l,s=>match l with
  |[]=>some s
  |x::l=>(jH n x s).bind fun r=>eC n l r
def j6:Nat->St->Bd->Option Bd
 |0,_,_=>none
 |n+1,x,s=>(ed c n x.value {s with loops:=s.loops+1}).bind fun r=>(f0 c.names n x.thn (List.replicate r.2.vars.length false)).bind fun b=>
  let p:=zfg ⟨3,16*(s.loops:Int),[]⟩ r.2
  (eC n x.thn (ik (16*(s.loops:Int)+1) (zgG b) 0 {p.2 with state:=p.1})).bind fun t=>(ed c n x.value t).bind fun d=>
    let k:=zfg ⟨31,s.loops,r.2.state::((zgG b).map fun i=>r.2.vars.getD i 0)++[d.1,d.2.state]++((zgG b).map fun i=>d.2.vars.getD i 0)⟩ d.2
    let f:=zfg ⟨25,0,[k.1]⟩ {k.2 with vars:=r.2.vars}
    let m:=zfA r.1 f.1 r.2.state f.2
    some (fB k.1 r.1 r.2.vars (zgG b) 1 {m.2 with state:=m.1})
end
end
def il:Nat->Nat->Bd->Bd
 |0,_,s=>s
 |n+1,k,s=>let r:=zfg ⟨2,k,[]⟩ s;il n (k+1) {r.2 with vars:=r.2.vars++[r.1] }
def j7:Nat->Bd->Bd
 |0,s=>s
 |n+1,s=>let r:=zfg ⟨1,0,[]⟩ s;j7 n {r.2 with vars:=r.2.vars++[r.1] }
def zhn(f:Fu):Bd:=let e:=zfg ⟨26,0,[]⟩ ⟨[],[],0,0⟩;j7 f.locals.length (il f.params.length 0 {e.2 with state:=e.1})
def jI(p:Pr)(f:Fu):Cx:=⟨p.arrays,p.funcs,f.params++f.locals⟩
def iL(p:Pr)(n:Nat)(f:Fu):Option Gr:=(eC (jI p f) n f.body (zhn f)).bind fun s=>(ed (jI p f) n f.value s).bind fun v=>some ⟨f.name,f.params.length,v.2.l,v.1,v.2.state⟩
def mA(p:Pr)(n:Nat):List Fu->List Gr->Option (Un×Int)
 |[],gs=>some (⟨p.arrays,gs⟩,0)
 |f::l,gs=>(iL p n f).bind fun g=>if (2000:Int)<g.nodes.length then some (⟨[],[]⟩,6)else mA p n l (gs++[g])
def qi(p:Pr)(n:Nat):Option (Un×Int):=if zhj p=0 then mA p n p.funcs []else some (⟨[],[]⟩,zhj p)
structure NdR (n:Nd):Prop where
 op:0<=n.op/\n.op<256
 imm:-9223372036854775808<=n.imm/\n.imm<9223372036854775808
 kids:∀k∈n.kids,0<=k/\k<2^60
 len:n.kids.length<2^30
theorem Kd(n:Int):mp n 0=n%256:=by
 rw[mp,xP];simp[Int.fdiv_one]
theorem Ke(n:Int)(i:Nat):mp n (i+1)=mp (n/256) i:=by
 rw[mp,mp];have e:(2:Int)^ (8*(i+1))=256*2^ (8*i):=by
  rw[Nat.mul_add,Int.pow_add];omega
 have p:(0:Int)<=2^ (8*i):=Int.le_of_lt (Int.pow_pos aD);rw[e,JK _ ac,JK _ p,Int.ediv_ediv_of_nonneg aD]
theorem zro(n:Int)(i:Nat):0<=mp n i/\mp n i<256:=by
 rw[mp,xP];omega
theorem Kf:∀(k:Nat) (n m:Int),0<=n->n<256^ k->0<=m->m<256^ k->(∀i,i<k->mp n i=mp m i)->n=m
 |0,n,m,h1,h2,h3,h4,_=>by simp at h2 h4;omega
 |k+1,n,m,h1,h2,h3,h4,h=>by
  have e:(256:Int)^ (k+1)=256*256^ k:=by rw[Int.pow_succ];omega
  rw[e]at h2 h4;have M:=h 0 ac;rw[Kd,Kd]at M;have ih:=Kf k (n/256) (m/256) ac (by generalize (256:Int)^ k=P at *;omega) ac (by generalize (256:Int)^ k=P at *;omega) (fun i I=>by rw[<-Ke,<-Ke];exact h (i+1) ac);omega
theorem Kg:∀{l m:List Int},(∀x∈l,0<=x/\x<256)->(∀x∈m,0<=x/\x<256)->sr l=sr m->l=m
 |[],[],_,_,_=>rfl
 |[],_::_,_,_,h=>by simp[sr]at h
 |_::_,[],_,_,h=>by simp[sr]at h
 |a::l,b::m,hl,hm,h=>by
  simp only[sr,dE,eB]at h;have i:=hl a dJ;have g:=hm b dJ;have e:a=b:=by
   have:=kz UInt8.toNat h.1;rw[UInt8.toNat_ofNat',UInt8.toNat_ofNat']at this;omega
  rw[e,Kg (fun x C=>hl x (dO _ C)) (fun x C=>hm x (dO _ C)) h.2]
theorem Kh(n:Int)(k:Nat):∀x∈zht n k,0<=x/\x<256:=fun x C=>by
 obtain⟨i,_,rfl⟩:=lc.1 C;exact zro n i
theorem Ki(n:Nd):∀x∈tZ n,0<=x/\x<256:=fun x C=>by
 rw[tZ,eP,pM,CW]at C;rcases C with rfl|C|⟨k,_,C⟩
 .rw[xP];omega
 .exact Kh _ _ x C
 .exact Kh _ _ x C
theorem Kk{n m:Int}(h1:0<=n)(h2:n<18446744073709551616)(Z:0<=m)(O:m<18446744073709551616)(h:zht n 8=zht m 8):n=m:=
 Kf 8 n m h1 ac Z ac fun i I=>List.map_inj_left.1 h i (kZ.2 I)
theorem sK(n:Int):0<=IntKind.wrap .u64 n/\IntKind.wrap .u64 n<18446744073709551616:=by rw[xQ];omega
theorem Kl:∀{V ms:List Int},(∀k∈V,0<=k/\k<2^60)->(∀k∈ms,0<=k/\k<2^60)->(V.flatMap fun k=>zht (IntKind.wrap .u64 k) 8)=(ms.flatMap fun k=>zht (IntKind.wrap .u64 k) 8)->V=ms
 |[],[],_,_,_=>rfl
 |[],m::ms,_,_,h=>by
  have:=kz List.length h;rw[tL,fG,rj]at this;simp at this;omega
 |k::V,[],_,_,h=>by
  have:=kz List.length h;rw[tL,fG,rj]at this;simp at this
 |k::V,m::ms,hk,hm,h=>by
  rw[tL,tL]at h;obtain⟨i,g⟩:=List.append_inj h (by rw[rj,rj]);have e:=Kk (sK k).1 (sK k).2 (sK m).1 (sK m).2 i;have Y:=hk k dJ;have K:=hm m dJ;rw[xQ,xQ]at e;have Z:k=m:=ac;rw[Z,Kl (fun x C=>hk x (dO _ C)) (fun x C=>hm x (dO _ C)) g]
theorem Km{a b:Nd}(o:NdR a)(Z:NdR b)(h:zgZ a=zgZ b):a=b:=by
 have h:=Kg (Ki a) (Ki b) h;rw[tZ,tZ,eB]at h;obtain⟨i,g⟩:=h;obtain⟨m,O⟩:=List.append_inj g (by rw[rj,rj]);have M:=Kk (sK _).1 (sK _).2 (sK _).1 (sK _).2 m;have K:=Kl o.kids Z.kids O;have J:=o.op;have C:=Z.op;have j:=o.imm;have i2:=Z.imm;rw[xP,xP]at i;rw[xQ,xQ]at M;obtain⟨Y,V,L⟩:=a;obtain⟨U,z,I⟩:=b;simp only at *;rw[show Y=U by omega,show V=z by omega,K]
theorem zrp(x:Nd)(l:List Nd)(n:Nd):fZ (x::l) n=if x=n then 0 else fZ l n+1:=by
 unfold fZ;rw[List.findIdx_cons];by_cases h:x=n<;>simp[h]
theorem AY(l:List Nd)(n:Nd):fZ l n<=l.length:=by unfold fZ;exact List.findIdx_le_length
theorem Kn{l:List Nd}{n:Nd}:fZ l n<l.length↔n∈l:=by
 unfold fZ;rw[List.findIdx_lt_length];simp
theorem Ko{l:List Nd}{n:Nd}(h:fZ l n<l.length):l[fZ l n]?=some n:=by
 rw[aR h];have:=List.findIdx_getElem (p:=fun x=>decide (x=n)) (xs:=l) (w:=h);simp only[iB]at this;exact kz some this
theorem Kp(l:List Nd)(n:Nd):(iK l n).length=if fZ l n<l.length then l.length else l.length+1:=by
 unfold iK;split<;>simp[*]
theorem ru(l:List Nd)(n:Nd):l<+:iK l n:=by
 unfold iK;split
 .exact xR l
 .exact List.prefix_append l [n]
theorem EM(l:List Nd)(n:Nd):(iK l n)[fZ l n]?=some n:=by
 unfold iK;split
 .rename_i h;exact Ko h
 .rename_i h;have:=AY l n;have e:fZ l n=l.length:=ac;rw[e,l0 (aE _),qS];rfl
theorem rv{l:List Nd}{n x:Nd}:x∈iK l n↔x∈l\/x=n:=by
 unfold iK;split
 .rename_i h;have:=Kn.1 h;constructor
  .exact .inl
  .rintro(h|rfl)
   .exact h
   .exact this
 .simp
theorem znp(l:List Nd)(n:Nd):fZ l n<(iK l n).length:=by
 have:=AY l n;rw[Kp];split<;>omega
def atV(l:List Nd)(i:Nat):List (zfD×Int):=(l.zipIdx i).map fun p=>(zgZ p.1,(p.2:Int))
theorem ztL(x:Nd)(l:List Nd)(i:Nat):atV (x::l) i=(zgZ x,(i:Int))::atV l (i+1):=by rw[atV,CC];rfl
theorem Kq{n:Nd}(z:NdR n):∀(l:List Nd) (i:Nat),(∀x∈l,NdR x)->ij (atV l i) (zgZ n)=decide (fZ l n<l.length)/\(fZ l n<l.length->em (atV l i) (zgZ n)=((i+fZ l n:Nat):Int))/\(¬fZ l n<l.length->∀x,setV (atV l i) (zgZ n) x=atV l i++[(zgZ n,x)])
 |[],i,_=>⟨rfl,fun h=>by simp[fZ]at h,fun _ x=>rfl⟩
 |x::l,i,hl=>by
  obtain⟨Z,Y,m⟩:=Kq z l (i+1) fun y U=>hl y (dO _ U)
  rw[zrp,ztL,dg];by_cases e:x=n
  .subst e;refine⟨by simp[ij],fun _=>by simp[em],fun h=>lL⟩
  .have g:¬zgZ n=zgZ x:=fun h=>e (Km z (hl x dJ) h).symm;rw[af e];refine⟨?_,fun h=>?_,fun h y=>?_⟩
   .simp only[ij,g];rw[Z];simp
   .have:=Y ac;simp only[em,g,cS];rw[this];congr 1;omega
   .have:=m ac y;simp only[setV,g,cS,this,pj]
theorem ztM(l:List Nd)(n:Nd):atV l 0++[(zgZ n,(l.length:Int))]=atV (l++[n]) 0:=by
 simp[atV,List.zipIdx_append]
structure zgy (a b:Bd):Prop where
 l:a.l<+:b.l
 n:a.loops<=b.loops
theorem zgy.refl(a:Bd):zgy a a:=⟨xR _,aE _⟩
def oM:=@zgy.refl
theorem zgy.trans{a b c:Bd}(h:zgy a b)(k:zgy b c):zgy a c:=⟨h.l.trans k.l,cJ h.n k.n⟩
def AZ:=@zgy.trans
structure Fin (s:Bd):Prop where
 r:∀x∈s.l,NdR x
 l:s.l.length<2^36
 n:s.loops<2^36
theorem Fin.le{a b:Bd}(h:Fin b)(k:zgy a b):Fin a:=⟨fun x C=>h.r x (k.l.subset C),uc k.l.length_le h.l,uc k.n h.n⟩
structure Lv (a b:Bd):Prop where
 le:zgy a b
 v:b.vars=a.vars
 n:b.loops=a.loops
theorem Lv.refl(a:Bd):Lv a a:=⟨oM a,rfl,rfl⟩
theorem Lv.trans{a b c:Bd}(h:Lv a b)(k:Lv b c):Lv a c:=⟨h.le.trans k.le,k.v.trans h.v,k.n.trans h.n⟩
theorem Lv.setS{a b:Bd}(h:Lv a b)(x:Int):Lv a {b with state:=x}:=⟨⟨h.le.l,h.le.n⟩,h.v,h.n⟩
theorem zgy.setS{a b:Bd}(h:zgy a b)(x:Int):zgy a {b with state:=x}:=⟨h.l,h.n⟩
theorem zgy.setV{a b:Bd}(h:zgy a b)(x:List Int):zgy a {b with vars:=x}:=⟨h.l,h.n⟩
theorem zgd(n:Nd)(s:Bd):Lv s (zfg n s).2:=⟨⟨ru s.l n,aE _⟩,rfl,rfl⟩
theorem zg0(c a b:Int)(s:Bd):Lv s (zfA c a b s).2:=by
 unfold zfA;split
 .exact Lv.refl s
 .exact zgd _ s
theorem qj(t v:Int)(s:Bd):Lv s (my t v s):=(zgd _ s).setS _
theorem qk(t v:Int)(s:Bd):Lv s (eK t v s):=(zgd _ s).trans ((zgd _ _).trans (qj _ _ _))
theorem A0(v:Int)(s:Bd):Lv s (mz v s):=(zgd _ s).trans ((zgd _ _).trans (qj _ _ _))
theorem zgg(c:Cx):∀(n:Nat) (x:Ex) (s:Bd) (r:Int×Bd),ed c n x s=some r->Lv s r.2
 |0,_,_,_,h=>by simp[ed]at h
 |n+1,x,s,r,h=>by
  have z:=zgg c n;unfold ed at h;split at h
  .cases h;exact zgd _ s
  split at h
  .obtain⟨v,_,rfl⟩:=oq.1 h;exact Lv.refl s
  split at h
  .simp only[fw]at h;obtain⟨k,_,C,i,a,_,rfl⟩:=h;exact(z _ _ _ i).trans ((qk _ _ _).trans (zgd _ _))
  split at h
  .simp only[fw]at h;obtain⟨k0,_,zfK,M,k1,_,C,i,Z,_,j,g,rfl⟩:=h;have a:=(z _ _ _ M).trans (z _ _ _ i);have b:=(a.setS zfK.2.state).trans (z _ _ _ g);exact(b.trans ((zg0 _ _ _ _).trans (zg0 _ _ _ _))).setS _
  .simp only[fH]at h;obtain⟨k0,_,zfK,M,h⟩:=h;have a:=z _ _ _ M;split at h
   .cases h;exact a.trans (zgd _ _)
   .simp only[fw]at h;obtain⟨k1,_,C,i,rfl⟩:=h;have b:=a.trans (z _ _ _ i);refine Lv.trans ?_ (zgd _ _);split
    .exact b.trans (A0 _ _)
    .exact b
theorem qn(c:Cx)(n:Nat):∀(l:List Ex) (s:Bd) (r:List Int×Bd),nO c n l s=some r->Lv s r.2/\r.1.length=l.length
 |[],s,r,h=>by cases h;exact⟨Lv.refl s,rfl⟩
 |x::l,s,r,h=>by
  unfold nO at h;simp only[fw]at h;obtain⟨C,i,j,g,rfl⟩:=h;obtain⟨a,b⟩:=qn c n l _ _ g;exact⟨(zgg c n _ _ _ i).trans a,by simp[b]⟩
theorem sM(c:Int)(a:List Int):∀(k i:Nat) (s r:Bd),lU c a k i s=some r->zgy s r/\r.state=s.state/\r.vars.length=s.vars.length/\r.loops=s.loops
 |0,i,s,r,h=>by cases h;exact⟨oM s,rfl,rfl,rfl⟩
 |k+1,i,s,r,h=>by
  unfold lU at h;simp only[fH]at h;obtain⟨x,_,y,_,h⟩:=h;have e:=sM c a k (i+1) _ _ h;have m:=zg0 c x y s;have K:(zfA c x y s).2.state=s.state:=by unfold zfA;split<;>rfl
  refine⟨(m.le.setV _).trans e.1,e.2.1.trans K,?_,e.2.2.2.trans m.n⟩;rw[e.2.2.1,jk,m.v]
theorem pA(base:Int):∀(U:List Nat) (j:Nat) (s:Bd),zgy s (ik base U j s)/\(ik base U j s).state=s.state/\(ik base U j s).vars.length=s.vars.length/\(ik base U j s).loops=s.loops
 |[],j,s=>⟨oM s,rfl,rfl,rfl⟩
 |w::U,j,s=>by
  unfold ik;have e:=pA base U (j+1) { (zfg ⟨3,base+j,[]⟩ s).2 with vars:=(zfg ⟨3,base+j,[]⟩ s).2.vars.set w (zfg ⟨3,base+j,[]⟩ s).1};refine⟨((zgd _ s).le.setV _).trans e.1,e.2.1,?_,e.2.2.2⟩;rw[e.2.2.1,jk];rfl
theorem rx(lp c:Int)(old:List Int):∀(U:List Nat) (j:Nat) (s:Bd),zgy s (fB lp c old U j s)/\(fB lp c old U j s).state=s.state/\(fB lp c old U j s).vars.length=s.vars.length/\(fB lp c old U j s).loops=s.loops
 |[],j,s=>⟨oM s,rfl,rfl,rfl⟩
 |w::U,j,s=>by
  unfold fB;simp only[];have m:=(zgd ⟨25,j,[lp]⟩ s).trans (zg0 c (zfg ⟨25,j,[lp]⟩ s).1 (old.getD w 0) (zfg ⟨25,j,[lp]⟩ s).2);have K:(zfA c (zfg ⟨25,j,[lp]⟩ s).1 (old.getD w 0) (zfg ⟨25,j,[lp]⟩ s).2).2.state=s.state:=by unfold zfA;split<;>rfl
  generalize zfA c (zfg ⟨25,j,[lp]⟩ s).1 (old.getD w 0) (zfg ⟨25,j,[lp]⟩ s).2=q at *;have e:=rx lp c old U (j+1) {q.2 with vars:=q.2.vars.set w q.1};refine⟨(m.le.setV _).trans e.1,e.2.1.trans K,?_,e.2.2.2.trans m.n⟩;rw[e.2.2.1,jk,m.v]
theorem kR(c:Cx):∀n:Nat,(∀x s r,jH c n x s=some r->zgy s r/\r.vars.length=s.vars.length)/\(∀l s r,eC c n l s=some r->zgy s r/\r.vars.length=s.vars.length)/\(∀x s r,j6 c n x s=some r->zgy s r/\r.vars.length=s.vars.length)
 |0=>⟨fun _ _ _ h=>by simp[jH]at h,fun _ _ _ h=>by simp[eC]at h,fun _ _ _ h=>by simp[j6]at h⟩
 |n+1=>by
  obtain⟨L,V,J⟩:=kR c n;refine⟨fun x s r h=>?_,fun l s r h=>?_,fun x s r h=>?_⟩
  .unfold jH at h;split at h
   .simp only[fH]at h;obtain⟨v,Z,h⟩:=h;split at h
    .cases h;have a:=zgg c n _ _ _ Z;exact⟨a.le.setV _,by rw[jk,a.v]⟩
    .cases h
   split at h
   .simp only[fw]at h;obtain⟨i,Z,v,g,a,_,rfl⟩:=h;have a:=(zgg c n _ _ _ Z).trans ((zgg c n _ _ _ g).trans ((qk a.len i.1 v.2).trans (zgd ⟨28,cp (c.arrays.map (·.name)) x.name,[(eK a.len i.1 v.2).state,i.1,v.1]⟩ _)));exact⟨a.le.setS _,by show List.length (Bd.vars _)=_;rw[a.v]⟩
   split at h
   .simp only[fw]at h;obtain⟨q,Z,a,g,b,U,m,I,rfl⟩:=h;have Y:=zgg c n _ _ _ Z;have M:=V _ _ _ g;have o:=V _ _ _ U;have K:=sM _ _ _ _ _ _ I;have z:=zg0 q.1 a.state m.state m;have k:zgy a b:=⟨o.1.l,o.1.n⟩;refine⟨(Y.le.trans (M.1.trans (k.trans (K.1.trans z.le)))).setS _,?_⟩;show(zfA q.1 a.state m.state m).2.vars.length=_;rw[z.v,K.2.2.1,o.2];show q.2.vars.length=_;rw[Y.v]
   split at h
   .exact J _ _ _ h
   split at h
   .simp only[fw]at h;obtain⟨v,Z,rfl⟩:=h;have a:=(zgg c n _ _ _ Z).trans (zgd ⟨29,0,[v.2.state,v.1]⟩ v.2);exact⟨a.le.setS _,by show List.length (Bd.vars _)=_;rw[a.v]⟩
   split at h
   .simp only[fH]at h;obtain⟨O,Z,h⟩:=h;split at h
    .cases h;have a:=(qn c n _ _ _ Z).1;have b:=a.le.trans (zgd ⟨30,zgz c.funcs x.to 0,O.2.state::O.1⟩ O.2).le;refine⟨zgy.setV (AZ (b.setS _) (zgd _ _).le) _,?_⟩;rw[jk];exact kz List.length a.v
    .cases h
   split at h
   .cases h;have a:=(zgd ⟨1,0,[]⟩ s).trans (qj (cu (16+x.n)) (zfg ⟨1,0,[]⟩ s).1 _);exact⟨a.le,by rw[a.v]⟩
   .cases h;exact⟨oM s,rfl⟩
  .unfold eC at h;cases l with
   |nil=>cases h;exact⟨oM s,rfl⟩
   |cons x l=>
    simp only[fH]at h;obtain⟨q,Z,g⟩:=h;have a:=L _ _ _ Z;have b:=V _ _ _ g;exact⟨a.1.trans b.1,b.2.trans a.2⟩
  .unfold j6 at h;simp only[fw]at h;obtain⟨q,Z,b,_,t,g,d,U,rfl⟩:=h;have Y:=zgg c n _ _ _ Z;have C:zgy s q.2:=⟨Y.le.l,cJ (eh _) Y.le.n⟩;have p:=zgd ⟨3,16*(s.loops:Int),[]⟩ q.2;have M:=pA (16*(s.loops:Int)+1) (zgG b) 0 { (zfg ⟨3,16*(s.loops:Int),[]⟩ q.2).2 with state:=(zfg ⟨3,16*(s.loops:Int),[]⟩ q.2).1};have o:=V _ _ _ g;have K:=zgg c n _ _ _ U;have j:zgy s d.2:=C.trans ((p.le.setS _).trans (M.1.trans (o.1.trans K.le)));refine⟨?_,?_⟩
   .refine AZ ?_ (rx _ _ _ _ _ _).1;refine zgy.setS ?_ _;refine AZ (AZ ?_ (zgd _ _).le) (zg0 _ _ _ _).le;refine zgy.setV ?_ _;exact j.trans (zgd _ _).le
   .rw[(rx _ _ _ _ _ _).2.2.1];show(zfA _ _ _ _).2.vars.length=_;rw[(zg0 _ _ _ _).v];show q.2.vars.length=_;rw[Y.v]
theorem A1(b:List Bool)(k i:Nat):(b.set k true).getD i false=if k=i/\k<b.length then true else b.getD i false:=by
 rw[dd,mL,dd];by_cases e:k=i
 .subst e;by_cases h:k<b.length
  .simp[h]
  .simp[h]
 .simp[e]
theorem A2{i:List zfD}{n:Nat}{x:St}{l:List St}{b o:List Bool}(h:f0 i (n+1) (x::l) b=some o):
 ∃J I Y,J=(if x.kind=1\/x.kind=6 then b.set (cp i x.name) true else b)/\(x.kind=1\/x.kind=6->cp i x.name<b.length)/\f0 i n x.thn J=some I/\f0 i n x.els I=some Y/\f0 i n l Y=some o:=by
 unfold f0 at h;simp only[]at h;split at h
 .cases h
 .rename_i M;simp only[fH]at h;obtain⟨I,g,Y,m,O⟩:=h;refine⟨_,I,Y,rfl,fun j=>?_,g,m,O⟩;by_cases c:cp i x.name<b.length
  .exact c
  .exact absurd ⟨j,ac⟩ M
theorem ry(Z:List zfD):∀(n:Nat) (l:List St) (b o:List Bool),f0 Z n l b=some o->∀i,o.getD i false=false->b.getD i false=false
 |0,_,_,_,h,_,_=>by simp[f0]at h
 |n+1,[],b,o,h,i,hi=>by cases h;exact hi
 |n+1,x::l,b,o,h,i,hi=>by
  obtain⟨J,I,Y,e,j,g,m,O⟩:=A2 h;have:=ry Z n _ _ _ g i (ry Z n _ _ _ m i (ry Z n _ _ _ O i hi));rw[e]at this;split at this
  .rw[A1]at this;split at this
   .cases this
   .exact this
  .exact this
theorem A3(Z:List zfD):∀(n m:Nat) (l:List St) (b o c g:List Bool),f0 Z n l b=some o->f0 Z m l c=some g->∀i,b.getD i false=false->g.getD i false=false->o.getD i false=false
 |0,_,_,_,_,_,_,h,_,_,_,_=>by simp[f0]at h
 |n+1,0,_,_,_,_,_,_,h,_,_,_=>by simp[f0]at h
 |n+1,m+1,[],b,o,c,g,h,k,i,hb,hc=>by cases h;exact hb
 |n+1,m+1,x::l,b,o,c,g,h,k,i,hb,hc=>by
  obtain⟨I,b2,b3,e,hk,C,h3,h4⟩:=A2 h;obtain⟨c1,c2,c3,e',V,M,z,j⟩:=A2 k;have L:=ry Z m _ _ _ j i hc;have K:=ry Z m _ _ _ z i L;have O:=ry Z m _ _ _ M i K;have r1:I.getD i false=false:=by
   rw[e];split
   .rename_i Y;rw[e',aq Y,A1]at O;split at O
    .cases O
    .rename_i U;rw[A1,af (fun J=>U ⟨J.1,V Y⟩)];exact hb
   .exact hb
  exact A3 Z n m _ _ _ _ _ h4 j i (A3 Z n m _ _ _ _ _ h3 z i (A3 Z n m _ _ _ _ _ C M i r1 K) L) hc
def rz(Z:List zfD)(l:List St)(i:Nat):Prop:=∃m b o,f0 Z m l b=some o/\o.getD i false=false
theorem rz.cons{Z:List zfD}{x:St}{l:List St}{i:Nat}(h:rz Z (x::l) i):(x.kind=1\/x.kind=6->i≠cp Z x.name)/\rz Z x.thn i/\rz Z x.els i/\rz Z l i:=by
 obtain⟨m,b,o,h,I⟩:=h;cases m with
 |zero=>simp[f0]at h
 |succ m=>
  obtain⟨J,C,z,e,j,g,V,O⟩:=A2 h;have U:=ry Z m _ _ _ O i I;have L:=ry Z m _ _ _ V i U;have M:=ry Z m _ _ _ g i L;refine⟨fun Y K=>?_,⟨m,_,_,g,L⟩,⟨m,_,_,V,U⟩,⟨m,_,_,O,I⟩⟩;rw[e,aq Y,A1,aq ⟨K.symm,j Y⟩]at M;cases M
theorem Kr(base:Int):∀(U:List Nat) (j:Nat) (s:Bd) (i:Nat),i∉U->(ik base U j s).vars[i]?=s.vars[i]?
 |[],j,s,i,_=>rfl
 |w::U,j,s,i,h=>by
  rw[eP,not_or]at h;show(ik base U (j+1) { (zfg ⟨3,base+j,[]⟩ s).2 with vars:=(zfg ⟨3,base+j,[]⟩ s).2.vars.set w (zfg ⟨3,base+j,[]⟩ s).1}).vars[i]?=_;rw[Kr base U (j+1) _ i h.2,mL,af (fun e=>h.1 e.symm)];rfl
theorem Ks(lp c:Int)(old:List Int):∀(U:List Nat) (j:Nat) (s:Bd) (i:Nat),i∉U->(fB lp c old U j s).vars[i]?=s.vars[i]?
 |[],j,s,i,_=>rfl
 |w::U,j,s,i,h=>by
  rw[eP,not_or]at h;show(fB lp c old U (j+1) { (zfA c (zfg ⟨25,j,[lp]⟩ s).1 (old.getD w 0) (zfg ⟨25,j,[lp]⟩ s).2).2 with vars:=(zfA c (zfg ⟨25,j,[lp]⟩ s).1 (old.getD w 0) (zfg ⟨25,j,[lp]⟩ s).2).2.vars.set w (zfA c (zfg ⟨25,j,[lp]⟩ s).1 (old.getD w 0) (zfg ⟨25,j,[lp]⟩ s).2).1}).vars[i]?=_;rw[Ks lp c old U (j+1) _ i h.2,mL,af (fun e=>h.1 e.symm),(zg0 _ _ _ _).v];rfl
theorem Kt(c:Int)(a:List Int):∀(k j:Nat) (s r:Bd),lU c a k j s=some r->∀(i:Nat),a[i]?=s.vars[i]?->r.vars[i]?=s.vars[i]?
 |0,j,s,r,h,i,_=>by cases h;rfl
 |k+1,j,s,r,h,i,e=>by
  unfold lU at h;simp only[fH]at h;obtain⟨x,C,y,Z,h⟩:=h;have U:((zfA c x y s).2.vars.set j (zfA c x y s).1)[i]?=s.vars[i]?:=by
   rw[(zg0 c x y s).v,mL];split
   .rename_i Y;subst Y;rw[C,Z]at e;simp only[az]at e;subst e;have L:j<s.vars.length:=by
     by_cases q:j<s.vars.length
     .exact q
     .rw[gI ac]at Z;cases Z
    rw[aq L,Z,zfA,aq rfl]
   .rfl
  have:=Kt c a k (j+1) _ _ h i (by rw[e];exact U.symm);rw[this];exact U
theorem zrq{b:List Bool}{i:Nat}(h:b.getD i false=false):i∉zgG b:=fun V=>by
 unfold zgG at V;have:=(oX.1 V).2;rw[h]at this;cases this
theorem zrr{b:List Bool}{i:Nat}(h:i∉zgG b):b.getD i false=false:=by
 by_cases c:i<b.length
 .cases o:b.getD i false with
  |false=>rfl
  |true=>exact absurd (oX.2 ⟨kZ.2 c,o⟩) h
 .rw[dd,gI ac];rfl
theorem Ku(c:Cx):∀n:Nat,(∀x s r,jH c n x s=some r->∀i,(x.kind=1\/x.kind=6->i≠cp c.names x.name)->rz c.names x.thn i->rz c.names x.els i->r.vars[i]?=s.vars[i]?) /\
 (∀l s r,eC c n l s=some r->∀i,rz c.names l i->r.vars[i]?=s.vars[i]?)/\(∀x s r,j6 c n x s=some r->∀i,rz c.names x.thn i->r.vars[i]?=s.vars[i]?)
 |0=>⟨fun _ _ _ h=>by simp[jH]at h,fun _ _ _ h=>by simp[eC]at h,fun _ _ _ h=>by simp[j6]at h⟩
 |n+1=>by
  obtain⟨O,Y,M⟩:=Ku c n;refine⟨fun x s r h i j C U=>?_,fun l s r h i L=>?_,fun x s r h i C=>?_⟩
  .unfold jH at h;split at h
   .rename_i Z;simp only[fH]at h;obtain⟨v,K,h⟩:=h;split at h
    .cases h;show(v.2.vars.set _ _)[i]?=_;rw[mL,af (fun e=>j (.inl Z) e.symm),(zgg c n _ _ _ K).v]
    .cases h
   split at h
   .simp only[fw]at h;obtain⟨q,Z,v,g,a,_,rfl⟩:=h;have a:=(zgg c n _ _ _ Z).trans ((zgg c n _ _ _ g).trans ((qk a.len q.1 v.2).trans (zgd ⟨28,cp (c.arrays.map (·.name)) x.name,[(eK a.len q.1 v.2).state,q.1,v.1]⟩ _)));show(Bd.vars _)[i]?=_;rw[a.v]
   split at h
   .simp only[fw]at h;obtain⟨q,Z,a,g,b,V,m,J,rfl⟩:=h;have e1:=(zgg c n _ _ _ Z).v;have e2:=Y _ _ _ g i C;have o:b.vars[i]?=q.2.vars[i]?:=Y _ _ _ V i U;have e4:=Kt _ _ _ _ _ _ J i (by rw[e2,o]);show(zfA q.1 a.state m.state m).2.vars[i]?=_;rw[(zg0 _ _ _ _).v,e4,o,e1]
   split at h
   .exact M _ _ _ h i C
   split at h
   .simp only[fw]at h;obtain⟨v,Z,rfl⟩:=h;have a:=(zgg c n _ _ _ Z).trans (zgd ⟨29,0,[v.2.state,v.1]⟩ v.2);show(Bd.vars _)[i]?=_;rw[a.v]
   split at h
   .rename_i z;simp only[fH]at h;obtain⟨av,Z,h⟩:=h;split at h
    .cases h;show(List.set _ _ _)[i]?=_;rw[mL,af (fun e=>j (.inr z) e.symm)];exact kz (·[i]?) (qn c n _ _ _ Z).1.v
    .cases h
   split at h
   .cases h;have a:=(zgd ⟨1,0,[]⟩ s).trans (qj (cu (16+x.n)) (zfg ⟨1,0,[]⟩ s).1 _);rw[a.v]
   .cases h;rfl
  .unfold eC at h;cases l with
   |nil=>cases h;rfl
   |cons x l=>
    simp only[fH]at h;obtain⟨q,Z,g⟩:=h;obtain⟨a1,a2,a3,a4⟩:=L.cons;rw[Y _ _ _ g i a4,O _ _ _ Z i a1 a2 a3]
  .unfold j6 at h;simp only[fw]at h;obtain⟨q,Z,b,hb,t,g,d,V,rfl⟩:=h;obtain⟨m,b0,b1,k1,k2⟩:=C;have I:=A3 c.names n m _ _ _ _ _ hb k1 i (by rw[dd,tU];split<;>rfl) k2;rw[Ks _ _ _ _ _ _ i (zrq I)];show(zfA _ _ _ _).2.vars[i]?=_;rw[(zg0 _ _ _ _).v];show q.2.vars[i]?=_;rw[(zgg c n _ _ _ Z).v]
theorem zai{c:Cx}{n:Nat}{x:St}{b:List Bool}{base:Int}{s t:Bd}{v:List Int}{d:Int×Bd}{k:Nat}(K:s.vars=v)(h2:f0 c.names n x.thn (List.replicate k false)=some b)(m:eC c n x.thn (ik base (zgG b) 0 s)=some t)(O:ed c n x.value t=some d):∀i,i∉zgG b->d.2.vars[i]?=v[i]?:=fun i I=>by
 rw[(zgg c n _ _ _ O).v,(Ku c n).2.1 _ _ _ m i ⟨n,_,_,h2,zrr I⟩,Kr _ _ _ _ i I,K]
end
end Go.Proofs.YtpbcimfiofmoeaaGreat
