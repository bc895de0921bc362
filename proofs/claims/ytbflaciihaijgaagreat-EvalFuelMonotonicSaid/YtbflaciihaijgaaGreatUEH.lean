/- Lemmas for the last file. -/
import Derived.Test.YtbflaciihaijgaaGreatUEG
set_option linter.all false
set_option maxHeartbeats 32000000
namespace Go.Ab
set_option maxRecDepth 20000
open Go
variable{qn:Prop}
def Dz(h:qn:=by rw[<- hHb];exact Nat.le_refl _):=h
def DA(h:qn:=by rw[<- hHb,Hp.get_set,if_pos rfl]):=h
def tJ(h:qn:=by rw[hlc];omega):=h
def Mq(h:qn:=by rw[Hp.get_set,if_pos rfl,V]):=h
def HF(h:qn:=by simp at hb;omega):=h
def SS(h:qn:=by rw[List.drop_eq_getElem_cons C,List.any_cons]):=h
def SU(h:qn:=by rw[List.drop_eq_getElem_cons C,List.all_cons]):=h
def mL(h:qn:=by simp only[bK,aS];omega):=h
def xN(h:qn:=by simp only[];omega):=h
def uO(h:qn:=by rw[Hp.get_set,if_neg ac,aL,if_neg ac]):=h
def SV(h:qn:=by rw[List.getD_eq_getElem?_getD,List.getElem?_eq_getElem ac];rfl):=h
def Mr(h:qn:=by rw[show l.length - i=(l.length - (i+1))+1 by omega];rfl):=h
def Ms(h:qn:=by rw[Hp.get_set,if_neg ac,aL,if_neg ac];exact hg):=h
def Mt(h:qn:=by rw[hm];exact fN ac ac):=h
def SW(h:qn:=by rw[Hp.get_set,if_neg ac,aL,if_neg ac];exact hg3):=h
def Mu(h:qn:=by rw[List.set_append,if_neg ac,hml,Nat.sub_self,List.set_cons_zero]):=h
def SX(h:qn:=by rw[List.getD_eq_getElem?_getD,List.getElem?_append_right ac,hml,Nat.sub_self];rfl):=h
def SY(h:qn:=by rw[List.getD_eq_getElem?_getD,List.getElem?_append_left ac,<- List.getD_eq_getElem?_getD]):=h
def AO(h:qn:=by rw[Hp.get_set,if_neg ac];exact g45):=h
def HG(h:qn:=by simp only[aK,Nat.reduceBEq, *];exact il (n:=p.ab.length) ac ac):=h
def Mv(h:qn:=by simp only[aK,Nat.reduceBEq, *];exact il (n:=x.args.length) ac ac):=h
def SZ(h:qn:=by rw[<- hHb,Hp.get_set,if_neg ac,aL,if_neg ac]):=h
def S0(h:qn:=by simp only[aK,Nat.reduceBEq, *];exact il (n:=C.length) ac ac):=h
def S1:=@List.take_succ_cons
def AP:=@List.take_zero
def oc:=@List.drop_eq_nil_of_le
def zn:=@Nat.or_lt_two_pow
def Mw:=@BitVec.testBit_toNat
def S8:=@Nat.lt_pow_two_of_testBit
def HH:=@Nat.pow_lt_pow_right
def Mx:=@List.replicate_zero
def zo:=@Go.IntWalk.u64_in
def sN:=@Bool.or_true
end Go.Ab
namespace Go.Proofs.YtbflaciihaijgaaGreat
set_option maxRecDepth 20000
open Go Go.Ab Proofs.Tryz
variable(ρ:Nat->Int)
variable{H H':Hp}{v:AV}{s t:qA}{lo i j m r a b:Nat}{S:Nat->Prop}{l:qF}{h:qG}
section
def tyI3.tyF:=ad @cG (ad @ey (ad @gC (ad @ik (ad @dm (ad @Md (@xd))))))
open tyI3
noncomputable def Ta:=qd (M:=80) f127.eq_1
noncomputable def Tb:=qd (M:=22) f74.eq_1
theorem Tc(S:Nat->Prop)(n:Nat)(H:Hp):∀s:qA,bN (dc S (n+1) H) (s.map (.int .i64)) (s.map (.int .i64))
 |[]=>trivial
 |a::s=>⟨xE ⟨.int _ _,trivial⟩,Tc S n H s⟩
theorem Td(n:Nat)(s:qA):cW (n+2) (iz s)=iz s:=by
 show AV.aE ((s.map fun n=>[AV.int .i64 n]).map fun Z=>Z.map (cW (n+1)))=_;rw[Gf];rfl
def gM.ic(h:gM H v s lo):∃u,dc (fun k=>lo<=k) 3 H v u/\cW 60 u=iz s:=by
 rcases h with⟨rfl,rfl⟩|⟨r,Y,rfl,m,C,Z,z⟩
 .exact⟨.ao,xE ⟨.ao,trivial⟩,rfl⟩
 .refine⟨.aE (iw 1 s.length (s.map (.int .i64))),⟨Z,z,s.map (.int .i64),Y,true,s.map (.int .i64),m,by simpa using C,aB,?_,rfl⟩,?_⟩
  .rw[gm,lW,je aB];exact Tc _ _ _ _
  .rw[L7];exact Td 58 s
def iP.dB(h:iP H v s lo)(k:Icy S H H'):iP H' v s lo:=by
 obtain⟨r,Y,rfl,m,Z,V,z⟩:=h;rcases k.same r with e|⟨I,i,j,O,C,L,J⟩
 .exact⟨r,Y,rfl,by rw[<-e];exact m,Z,V,by rw[k.next];exact z⟩
 .rw[m]at C;simp only[am,HB.cells.injEq]at C;obtain⟨rfl,rfl,rfl⟩:=C;exact⟨r,j,rfl,L,by have:=J (by simpa using Z);simpa using this,V,by rw[k.next];exact z⟩
def gM.dB(h:gM H v s lo)(k:Icy S H H'):gM H' v s lo:=h.imp id fun h=>h.dB k
noncomputable def My:En:=⟨167,true,co (fun x=>x.2.length<2^30) xJ fun x=>.bool (dY x.1.op x.2)⟩
def zg4:de prog ρ My:=dA fun x I=>zgZ ρ x I
noncomputable def zp:qH:=[xF My,SL]
def zg5:gX prog ρ zp:=⟨L4 (zg4 ρ),zgP ρ,trivial⟩
theorem zg6(n:Nat)(x:Nd):cW (n+4) (.agg x.cells)=.agg x.cells:=by
 show AV.agg (x.cells.map (cW (n+3)))=_;rw[Nd.cells];simp only[eC,oZ,Td];rfl
theorem zg7(y:Nd×qA):(xJ y).any (rU 90)=false:=by
 obtain⟨⟨op,Y,m⟩,s⟩:=y;rfl
theorem zg8{l:qH}(L:∀m,dU l 167 m=(xF My).sp m)(O:mc l 167=true)(j:gM H v s lo)(V:s.length<2^30)(n:Nd):
 aR prog (aA pls l) 167 [.agg n.cells,v] H fun w H'=>w=.bool (dY n.op s)/\Icy (fun k=>lo<=k) H H':=by
 obtain⟨u,Z,Y⟩:=j.ic;obtain⟨J,C⟩:∃us,bN (dc (fun k=>lo<=k) 2 H) n.cells us/\us=n.cells:=by
  refine⟨n.cells,?_,rfl⟩;rw[Nd.cells];exact⟨xE ⟨.int _ _,trivial⟩,xE ⟨.int _ _,trivial⟩,xE ⟨Dg _,trivial⟩,trivial⟩
 obtain⟨C,rfl⟩:=C;refine Mo (x:=((n,s):Nd×qA)) (enc:=xJ) (ok:=fun x=>x.2.length<2^30) (out:=fun x=>.bool (dY x.1.op x.2)) (us:=[.agg n.cells,u]) (n:=3) zgS (fun m=>by rw[L];rfl) O zg7 V ac ⟨⟨n.cells,C,rfl⟩,Z,trivial⟩ ?_;show [cW 60 (.agg n.cells),cW 60 u]=_;rw[Y,zg6 56];rfl
def Te{kn kids:qA}(I:j<kids.length):gJ i kn (kids.drop j)=if kids[j]<0\/(i:Int)<=kids[j]\/kn.getD kids[j].toNat 0=0 then none else (gJ i kn (kids.drop (j+1))).map fun s=>kn.getD kids[j].toNat 0::s:=by
 rw[i4 I,gJ]
def xO(i:Nat)(kn kids:qA)(j:Nat)(s:qA):Prop:=s.length=j/\gJ i kn kids=(gJ i kn (kids.drop j)).map fun t=>s++t
theorem xO.fX{kn kids:qA}(h:xO i kn kids j s){m:Int}(hg:kids[j]?=some m)(hb:m<0\/(i:Int)<=m\/kn.getD m.toNat 0=0):gJ i kn kids=none:=by
 obtain⟨I,e⟩:=gR.1 hg;rw[h.2,Te I,e,ai hb];rfl
theorem xO.next{kn kids:qA}(h:xO i kn kids j s){m:Int}(hg:kids[j]?=some m)(hb:¬(m<0\/(i:Int)<=m\/kn.getD m.toNat 0=0)):xO i kn kids (j+1) (s++[kn.getD m.toNat 0]):=by
 obtain⟨I,e⟩:=gR.1 hg;refine⟨by simp[h.1],?_⟩;rw[h.2,Te I,e,ah hb];cases gJ i kn (kids.drop (j+1))with
 |none=>rfl
 |some t=>simp
def xO.done{kn kids:qA}(h:xO i kn kids kids.length s):gJ i kn kids=some s:=by
 rw[h.2,kL];simp[gJ]
def Mz{kn:qA}{n:Nd}(J:l[i]?=some n)(h:gJ i kn n.ak=none):l6 l i kn=0:=by
 rw[l6,J];simp only[h]
def zg9{kn:qA}{n:Nd}(J:l[i]?=some n)(h:gJ i kn n.ak=some s):l6 l i kn=if dY n.op s&&fh l n then kU n s else 0:=by
 rw[l6,J];simp only[h]
theorem zha{op:Int}(h:dY op s=true)(J:op=25):s.length=1:=by
 subst J;by_cases c:s.length=1
 .exact c
 .rw[Mm aF (by have e:(eK 25).1=1:=rfl;rw[e];omega)]at h;cases h
theorem zhb{op:Int}(h:dY op s=true)(Y:op=22):s.length=3:=by
 subst Y;by_cases c:s.length=3
 .exact c
 .rw[Mm aF (by have e:(eK 22).1=3:=rfl;rw[e];omega)]at h;cases h
def zhc{kn:qA}{n:Nd}(L:i<l.length)(Z:∀n∈l,n.ak.length<2^30)(z:gJ i kn n.ak=some s)(V:dY n.op s=true):Dx (l,n):=by
 intro J;have j:=zha V J;rw[Aw z]at j;obtain⟨k,O⟩:=zbU j;simp only[]at O⊢;obtain⟨C,I,_⟩:=xh z k (by rw[O];exact List.mem_singleton_self _);obtain⟨m,rfl⟩:=jR C;have Y:m<l.length:=ac;exact⟨m,l[m],by rw[O];rfl,aX Y,by have:=Z _ (dE Y);omega⟩
set_option maxRecDepth 100000 in
theorem zhd{kn:qA}(hl:l.length<2^30)(hi:i<l.length)(hkl:∀n∈l,n.ak.length<2^30)(hkn:l.length<=kn.length)(hg:H.get r=some (.cells (kn.map (.int .i64)) 0 true))(hr:r<H.next):
 aR prog (aA pls zp) 127 [jV l,.int .i64 i,.sl r 0 kn.length 1] H fun v H'=>v=.int .i64 (l6 l i kn)/\H.next<=H'.next/\∀k,k<H.next->H'.get k=H.get k:=by
 have hw:zd0 (aA pls zp) 127:=gY (fun _=>rfl) rfl;have hkeep:(aA pls zp).keep 127=false:=rfl;have z:l[i]?=some l[i]:=aX hi;have hnk:=hkl _ (dE hi);generalize l[i]=n at *;refine qe hw func127 Ta ?_;dsimp only[Ta,qd,a1,Nat.reduceAdd];refine dX ?_;refine cP [0,1,2,7,16,17] [] 18 n.ak.length (fun j E O=>∃v s,E.at 8=v/\gM O v s (H.next+1)/\xO i kn n.ak j s/\O.get H.next=some (.cells n.cells 0 true)/\∀k,k<H.next->O.get k=H.get k) eE ⟨.ao,[],eE,.inl ⟨rfl,rfl⟩,⟨rfl,aB⟩,iW,fun k hk=>uO⟩ ?_;rintro j E O hj hcE hrH hnH hsI ⟨v,s,k8,hv,I,hn7,Z⟩;(try simp only[bz,a7,aV,aK,bb,Nat.reduceBEq, *]at hcE);(try simp only[a7,bb, *]at hrH);(try simp only[aS,bK,]at hnH);repeat' (first
  |(apply ay ?_;clear hK K)|apply a9 ?_|(apply bU ?_ ?_<;>(intro hb hbp;try(cases hb;done)))|(apply az fun K hK=>?_)|fail)
 .have hlt:j<n.ak.length:=by simpa using hb
  have L:n.ak[j]?=some n.ak[j]:=aX hlt;generalize n.ak[j]=kd at *;have g2r:O.get r=some (.cells (kn.map (.int .i64)) 0 true):=by rw[Z r hr];exact hg
  by_cases c1:kd<0
  .repeat' (first
    |(apply ay ?_;clear hK K)|apply aT ?_|(apply cR ?_ ?_<;>(intro hg hgp;try(cases hg;done)))|(apply a2 ?_ ?_<;>(intro hb hbp;try(cases hb;done)))|(apply az fun K hK=>?_)|fail)
   all_goals refine qi ?_
   refine⟨?_,ac,Z⟩;rw[Mz z (I.fX L (.inl c1))]
  by_cases c2:(i:Int)<=kd
  .have c1':¬kd<0:=c1;repeat' (first
    |(apply ay ?_;clear hK K)|apply aT ?_|(apply cR ?_ ?_<;>(intro hg hgp;try(cases hg;done)))|(apply a2 ?_ ?_<;>(intro hb hbp;try(cases hb;done)))|(apply az fun K hK=>?_)|fail)
   all_goals refine qi ?_
   refine⟨?_,ac,Z⟩;rw[Mz z (I.fX L (.inr (.inl c2)))]
  obtain⟨m,rfl⟩:=jR (Int.not_lt.1 c1);have hml:m<kn.length:=ac;have hgk:kn[m]?=some kn[m]:=aX hml;have hgd:kn.getD (m:Int).toNat 0=kn[m]:=by rw[eM,dC,hgk];rfl
  have hia:dK prog 26 (.sl r 0 kn.length 1) (.int .i64 (m:Int))=some (.ptr r m):=by rw[pG underlying26 jI hml];simp
  have hld:eP prog O 3 (.ptr r m)=some (.int .i64 kn[m]):=by rw[yI underlying3 rfl g2r,fd,hgk];rfl
  generalize kn[m]=x at *;repeat' (first
   |(apply ay ?_;clear hK K)|apply aT ?_|(apply cR ?_ ?_<;>(intro hg hgp;try(cases hg;done)))|(apply a2 ?_ ?_<;>(intro hb hbp;try(cases hb;done)))|(apply az fun K hK=>?_)|fail)
  .all_goals refine qi ?_
   refine⟨?_,ac,Z⟩;rw[Mz z (I.fX L (.inr (.inr (by rw[hgd];assumption))))]
  .have hvb:gM (O.alloc (.cells [.int .i64 x] 0 true)) v s (H.next+1):=hv.keep (dg _) fun k hk=>by rw[aL,ah (by have:=(hv.lt hk).2;omega)]
   obtain⟨v5,H5,cI,s5,n5,f5,o5⟩:=L6 (r:=O.next) (imm:=0) x hvb iF fw (by have:=I.1;omega);have hJn:=I.next L (by rw[hgd];rintro(h|h|h)<;>contradiction)
   rw[hgd]at hJn;have n5':O.next<=H5.next:=Hm
   clear n5;have old5:∀k,k<H.next+1->H5.get k=O.get k:=fun k hk=>by rw[f5 k hk,aL,ah ac]
   refine mG cS cS (by rw[hkeep];exact cI) ?_;refine dX ?_;clear f5 o5 cI;refine⟨ac,aW,aW,b8,Dk,?_⟩;refine⟨v5,s++[x],eE,.inr s5,hJn,by rw[old5 _ ac];exact hn7,fun k hk=>by rw[old5 k ac,Z k hk]⟩
 .have hje:j=n.ak.length:=by simp at hb;omega
  rw[hje]at I;have C:=zg9 z I.done;have hsl2:s.length<2^30:=by rw[I.1];exact hnk
  refine dX ?_;refine qj ?_;refine a8 ?_ (zg8 (fun _=>rfl) rfl hv hsl2 n);rintro w H4 ⟨rfl,hy⟩;have n4:=hy.next
  have n4':H.next+1<=H4.next:=ac
  have Y:=hv.dB hy;have g4:H4.get H.next=some (.cells n.cells 0 true):=by rw[hy.out _ ac];exact hn7
  have o4:∀k,k<H.next->H4.get k=H.get k:=fun k hk=>by rw[hy.out _ ac,Z k hk]
  clear hy n4 hv Z hn7;dsimp only[a0];cases J:dY n.op s with
  |false=>
   repeat' (first
    |(apply ay ?_;clear hK K)|apply a9 ?_|(apply gL ?_ ?_<;>(intro hg hgp;try(cases hg;done)))|(apply bU ?_ ?_<;>(intro hb hbp;try(cases hb;done)))|(apply az fun K hK=>?_)|fail)
   all_goals refine qi ?_
   refine⟨?_,ac,o4⟩;rw[C,J];rfl
  |true=>
  have V:=zhc hi hkl I.done J;rw[J,gW]at C;have kim:∀H,aR prog (aA pls zp) 168 [jV l,.agg n.cells] H fun v H'=>v=.bool (fh l n)/\H'=H:=fun H=>cQ (enc:=zl) (ok:=Dx) (out:=fun x=>.bool (fh x.1 x.2)) zgN (x:=(l,n)) rfl V;have hq:(16:Int)≠0:=aF;repeat' (first
   |(apply ay ?_;clear hK K)|apply a9 ?_|(apply fq ?_;first|refine Rx.k (kim _) ?_)|(apply gL ?_ ?_<;>(intro hg hgp;try(cases hg;done)))|(apply bU ?_ ?_<;>(intro hb hbp;try(cases hb;done)))|(apply az fun K hK=>?_)|fail)
  all_goals (first|(refine⟨aE,_,aO,?_⟩;(try simp only[aD]);refine⟨?_,ac,o4⟩;rw[C];unfold kU;clear V kim o4 Y C z;simp_all;done)|skip)
  all_goals trace_state
  refine dX ?_;have h22:n.op=22:=mX;have hl3:=zhb J h22;rcases Y with⟨_,hnil⟩|Y
  .rw[hnil]at hl3;simp at hl3
  obtain⟨q,hix,hlo⟩:=Y.at (i:=1) ac;have hix':dK prog 26 v (.int .i64 1)=some (.ptr q 1):=hix;refine dX ?_;all_goals refine qi ?_
  refine⟨?_,ac,o4⟩;have hgl:s.getD 1 0=s[1]' ac:=SV;rw[C];unfold kU;clear V kim o4 Y C z;simp_all
theorem Tf{i:Nat}{a b:qA}(m:a.length=i):∀L:qA,gJ i (a++b) L=gJ i a L
 |[]=>rfl
 |k::L=>by
  rw[gJ,gJ,Tf m L];by_cases h:k<0\/(i:Int)<=k
  .rw[ai ac,ai ac]
  .have e:(a++b).getD k.toNat 0=a.getD k.toNat 0:=by rw[dC,dC,nQ ac]
   rw[e]
theorem zhe(l:qF)(b:qA):l6 l i (eY l i++b)=l6 l i (eY l i):=by
 unfold l6;cases l[i]? with
 |none=>rfl
 |some n=>simp only[Tf (tA l i)]
def pS(l:qF):Prop:=l.length<2^30/\∀n∈l,n.ak.length<2^30
def rV(l:qF):qB:=[jV l]
def DB(x y:qF)(h:rV x=rV y):x=y:=by
 simp only[rV,eX,aV]at h;exact SK h
def zhf(l:qF)(hl:pS l):bA prog ρ 74 [jV l] (iz (eY l l.length)):=xu (m:=3) (cfg:=aA pls zp) fit (rG ρ) (gX.cu (zg5 ρ)) (.cons (AN _) .nil) (by
 obtain⟨j,hl2⟩:=hl;have hw:zd0 (aA pls zp) 74:=gY (fun _=>rfl) rfl;have hmk:∀H:Hp,jq prog H 26 (.int .i64 l.length) (.int .i64 l.length)=some (.sl H.next 0 l.length 1,H.alloc (.cells ((List.replicate l.length (0:Int)).map (.int .i64)) 0 true)):=fun H=>zgl _ _ (aG _) ac;refine qe hw func74 Tb ?_;dsimp only[Tb,qd,a1,Nat.reduceAdd];refine dX ?_;refine cP [0,2,3,9] [] 10 l.length (fun i E H=>H.get 0=some (.cells ((eY l i++List.replicate (l.length-i) 0).map (.int .i64)) 0 true)) eE (by rw[aL,ai cN];simp[eY]) ?_;rintro i E H2 hi O J z hsI V;(try simp only[bz,a7,aV,aK,bb,Nat.reduceBEq, *]at O);(try simp only[a7,bb, *]at J);(try simp only[aS,cL,bR]at z);repeat' (first
  |(apply ay ?_;clear hK K)|apply a9 ?_|(apply bU ?_ ?_<;>(intro hb hbp;try(cases hb;done)))|(apply az fun K hK=>?_)|fail)
 .have C:i<l.length:=by simpa using hb
  refine qj ?_;have Y:(eY l i++List.replicate (l.length-i) (0:Int)).length=l.length:=by rw[fx,tA,j9];omega
  have I:=zhd (l:=l) (i:=i) (kn:=eY l i++List.replicate (l.length-i) 0) (r:=0) (H:=H2) j C hl2 ac V ac;rw[Y]at I;refine a8 ?_ I;rintro w H3 ⟨rfl,hn3,Z⟩;have g3:H3.get 0=_:=(Z 0 ac).trans V;have n3:1<=H3.next:=ac
  rw[zhe];dsimp only[a0];generalize hx:l6 l i (eY l i)=x;have hsi:eY l (i+1)=eY l i++[x]:=by rw[eY,hx]
  refine yg ?_;refine oK cS cS (Dw g3 (by rw[dk,Y];exact C) x) ?_;refine dX ?_;refine⟨ac,aW,aW,b8,sJ,?_⟩;rw[aQ,ai rfl,hsi,<-xD];have L:List.replicate (l.length-i) (0:Int)=0::List.replicate (l.length-(i+1)) 0:=Mr;rw[L,List.set_append,ah (by rw[tA];omega),tA,rz,KV,kI];rfl
 .have hie:i=l.length:=by simp at hb;omega
  rw[hie,rz]at V;refine dX ?_;all_goals refine qi ?_
  have hb:iP H2 (.sl 0 0 (eY l l.length).length 1) (eY l l.length) 0:=⟨0,0,rfl,by rw[V];simp,eR _,eR _,ac⟩;have:=hb.iceV 1;rw[tA]at this;exact this)
noncomputable def MA:En:=⟨74,true,co pS rV fun l=>iz (eY l l.length)⟩
def zhg:de prog ρ MA:=dA fun l L=>zhf ρ l L
def zhh{tb:qH}(Z:∀m,dU tb 74 m=MA.sp m)(l:qF)(L:pS l)(H:Hp):aR prog (aA pls tb) 74 [jV l] H fun v H'=>v=iz (eY l l.length)/\H'=H:=
 cQ (enc:=rV) (ok:=pS) (out:=fun l=>iz (eY l l.length)) DB (x:=l) (Z _) L
end
section
def tyV2.tyF:=ad @dm (ad @cG (ad @eG (ad @ij (ad @ey (ad @oQ (ad @jJ (ad @gC (ad @rO (ad @ik (ad @nZ (ad @zfu (ad @sw (@xd)))))))))))))
open tyV2
noncomputable def Tg:=qd (M:=59) f77.eq_1
noncomputable def AQ:=qd (M:=47) f75.eq_1
def nI:qF->qA->Option qA
 |[],t=>some t
 |n::l,t=>if n.op=31 then (if 0<t.getD n.aP.toNat 0 then none else nI l (t.set n.aP.toNat (dy n.ak.length)))else nI l t
def sO(t:qA)(n:Nd):Bool:=decide (n.op=3)&&decide (0<t.getD (n.aP.tdiv 16).toNat 0)&&decide (t.getD (n.aP.tdiv 16).toNat 0<=n.aP.tmod 16)
def pT(l:qF):Bool:=match nI l (List.replicate 16 0)with
 |none=>false
 |some t=>l.all fun n=>!sO t n
def DC(n:Nd):Prop:=(n.op=31->0<=n.aP/\n.aP<=15)/\(n.op=3->0<=n.aP/\n.aP<=255)
def zhi(H:Hp):cC prog 204=some ((List.replicate 16 (0:Int)).map (.int .i64)):=ax
theorem Th(Y:m<16):dK prog 204 (.ptr r 0) (.int .i64 (m:Int))=some (.ptr r m):=by
 have e:dK prog 204 (.ptr r 0) (.int .i64 (Int.ofNat m))=if m<16 then some (.ptr r (0+m*1))else none:=rfl
 rw[show((m:Nat):Int)=Int.ofNat m from rfl,e,ai Y];simp
theorem Ti{imm:Nat}(hg:H.get r=some (.cells (t.map (.int .i64)) imm true))(Y:m<t.length):eP prog H 3 (.ptr r m)=some (.int .i64 (t.getD m 0)):=by
 rw[yI underlying3 rfl hg,fd,dC,aX Y];rfl
def zhj(hg:H.get r=some (.cells (t.map (.int .i64)) 0 true))(Y:m<t.length)(n:Int):jY prog H 3 (.ptr r m) (.int .i64 n)=some (H.set r (.cells ((t.set m n).map (.int .i64)) 0 true)):=by
 rw[Dw hg (by rw[dk];exact Y),xD]
set_option maxRecDepth 100000 in
theorem zhk(l:qF)(hl:pS l)(hn:∀n∈l,DC n):bA prog ρ 77 [jV l] (.bool (pT l)):=fF fit (pls:=pls) (l:=[uN]) ⟨HC ρ,trivial⟩ (.cons (AN _) .nil) (.bool _) (by
 obtain⟨hl1,hl2⟩:=hl;have hw:zd0 (aA pls [uN]) 77:=gY (fun _=>rfl) rfl;have q16:(16:Int)≠0:=aF;refine qe hw func77 Tg ?_;dsimp only[Tg,qd,a1,Nat.reduceAdd];have gh0:=@zhi;refine dX ?_;refine cP [0,3,8,9] [] 10 l.length (fun i E H=>∃t:qA,t.length=16/\H.get 0=some (.cells (t.map (.int .i64)) 0 true)/\nI l (List.replicate 16 0)=nI (l.drop i) t) eE ⟨List.replicate 16 0,aB,LW,aB⟩ ?_;rintro i E V hi O hrH Z hsI ⟨t,ht,hg,I⟩;(try simp only[bz,a7,aV,aK,bb,Nat.reduceBEq, *]at O);(try simp only[a7,bb, *]at hrH);(try simp only[aS,cL,bR]at Z);have hB0:(0 == V.next)=false:=aZ ac;have hC0:(V.next == 0)=false:=aZ ac;have hn2:1<=V.next:=Z
 by_cases C:i<l.length
 .have hlt':(i:Int)<l.length:=by omega
  have hgx:l[i]?=some l[i]:=aX C;have hok:=hn _ (dE C);have hnk:=hl2 _ (dE C);have z:nI (l.drop i) t=if l[i].op=31 then (if 0<t.getD l[i].aP.toNat 0 then none else nI (l.drop (i+1)) (t.set l[i].aP.toNat (dy l[i].ak.length)))else nI (l.drop (i+1)) t:=by rw[i4 C,nI]
  generalize l[i]=n at *;have e0:(0 == V.next)=false:=aZ ac;by_cases h31:n.op=31
  .obtain⟨m0,bt⟩:=hok.1 h31;obtain⟨m,hm⟩:=jR m0;have J:m<16:=ac;rw[ai h31,hm,eM]at z;have hix:=Th (r:=0) J;have hgA:∀b,(V.alloc b).get 0=some (.cells (t.map (.int .i64)) 0 true):=fun b=>by rw[aL,ah ac];exact hg
   have L:∀b c,((V.alloc b).set V.next c).get 0=some (.cells (t.map (.int .i64)) 0 true):=fun b c=>by rw[aQ,ah ac];exact hgA b
   have hld:=fun b c=>Ti (L b c) (m:=m) ac;generalize t.getD m 0=x at *;repeat' (first
    |(apply ay ?_;clear hK K)|apply aT ?_|(apply eA ?_;first|refine Rx.k (AL (fun _=>rfl) _ ac _) ?_)|(apply a2 ?_ ?_<;>(intro hb hbp;try(cases hb;done)))|(apply az fun K hK=>?_)|(apply bV 8 [(1,5),(1,7),(3,5),(4,5)] fun K hK=>?_)|(apply bB ?_;try intro _)|fail)
   .all_goals refine qi ?_
    rw[ai mX]at z;rw[pT,I,z]
   .refine oK cS cS (zhj (L _ _) ac _) ?_;repeat' (first
     |(apply ay ?_;clear hK K)|apply Rx.o ?_|(apply az fun K hK=>?_)|(apply bB ?_;try intro _)|(apply bY ?_ ?_<;>clear hK K)|fail)
    .exact bM
    .refine⟨ac,aW,aW,b8,sJ,?_⟩;exact⟨t.set m (dy n.ak.length),by rw[iB];exact ht,iW,by rw[I,z,ah mX]⟩
  .rw[ah h31]at z;refine jp (fun hb hbp=>?_);refine⟨ac,aW,aW,b8,sJ,?_⟩;exact⟨t,ht,Ms,by rw[I,z]⟩
 .have hlt':¬(i:Int)<l.length:=by omega
  refine jp (fun hb hbp=>?_);have hie:l.drop i=[]:=oc ac;rw[hie,nI]at I;have hvl:pT l=l.all fun n=>!sO t n:=by rw[pT,I]
  rw[hvl];clear hie I hvl;refine cP [3,30,31] [] 32 l.length (fun i E H=>H.get 0=some (.cells (t.map (.int .i64)) 0 true)/\(l.all fun n=>!sO t n)=(l.drop i).all fun n=>!sO t n) eE ⟨hg,aB⟩ ?_;rintro j E3 H3 hj O hrH Z hsI ⟨hg3,I⟩;(try simp only[bz,a7,aV,aK,bb,Nat.reduceBEq, *]at O);(try simp only[a7, *]at hrH);(try simp only[aS,bK,cL,bR,Nat.reduceAdd]at Z);have hB0:(0 == H3.next)=false:=aZ ac;have hC0:(H3.next == 0)=false:=aZ ac;have hn3:1<=H3.next:=ac
  by_cases hjt:j<l.length
  .have hjt':(j:Int)<l.length:=by omega
   have hgx:l[j]?=some l[j]:=aX hjt;have hok:=hn _ (dE hjt);have z:((l.drop j).all fun n=>!sO t n)=(!sO t l[j]&&(l.drop (j+1)).all fun n=>!sO t n):=by rw[i4 hjt,oX]
   generalize l[j]=n at *;have e0:(0 == H3.next)=false:=aZ ac;by_cases h3:n.op=3
   .obtain⟨m0,bt⟩:=hok.2 h3;have hd:n.aP.tdiv 16=n.aP/16:=sD m0;have hd0:0<=n.aP.tdiv 16:=by rw[hd];omega
    obtain⟨m,hm⟩:=jR hd0;have J:m<16:=ac;have Y:sO t n=(decide (0<t.getD m 0)&&decide (t.getD m 0<=n.aP.tmod 16)):=by rw[sO,hm,h3,eM];rfl
    have ew:IntKind.wrap .i64 (n.aP.tdiv 16)=m:=Mt;have hix:=Th (r:=0) J;have L:∀b c,((H3.alloc b).set H3.next c).get 0=some (.cells (t.map (.int .i64)) 0 true):=fun b c=>SW;have hld:=fun b c=>Ti (L b c) (m:=m) ac;generalize t.getD m 0=x at *;clear hd hm;repeat' (first
     |(apply ay ?_;clear hK K)|apply aT ?_|(apply a2 ?_ ?_<;>(intro hb hbp;try(cases hb;done)))|(apply az fun K hK=>?_)|(apply bV 13 [(1,22),(5,22),(8,22),(13,22),(16,22),(19,22)] fun K hK=>?_)|(apply bB ?_;try intro _)|(apply bY ?_ ?_<;>clear hK K)|(apply xr ?_ ?_<;>(intro hg hgp;try(cases hg;done)))|fail)
    all_goals first
     |exact bM
     |(refine⟨aE,_,rS,?_⟩
       simp only[aD];rw[I,z,Y];simp_all;done)
     |skip
    all_goals
     refine⟨ac,aW,aW,b8,sJ,?_⟩;exact⟨L _ _,by rw[I,z,Y];simp_all⟩
   .have Y:sO t n=false:=by rw[sO,kS h3];rfl
    repeat' (first
     |(apply ay ?_;clear hK K)|apply aT ?_|(apply a2 ?_ ?_<;>(intro hb hbp;try(cases hb;done)))|(apply az fun K hK=>?_)|(apply bV 13 [(1,22),(5,22),(8,22),(13,22),(16,22),(19,22)] fun K hK=>?_)|(apply bB ?_;try intro _)|(apply bY ?_ ?_<;>clear hK K)|(apply xr ?_ ?_<;>(intro hg hgp;try(cases hg;done)))|fail)
    all_goals first
     |exact bM
     |skip
    refine⟨ac,aW,aW,b8,sJ,?_⟩;exact⟨SW,by rw[I,z,Y];rfl⟩
  .have hjt':¬(j:Int)<l.length:=by omega
   refine jp (fun hb hbp=>?_);all_goals refine qi ?_
   rw[I,oc ac];rfl)
end
section
def tyV3.tyF:=ad @dm (ad @cG (ad @eG (ad @ij (ad @ey (ad @oQ (ad @jJ (ad @gC (ad @rO (ad @ik (@nZ))))))))))
open tyV3
structure VrX where
 u:Un
 g:Gr
 n:Nd
def zq(x:VrX):qB:=[.agg x.u.cells,.agg x.g.cells,.agg x.n.cells]
def zhl(x y:VrX)(h:zq x=zq y):x=y:=by
 obtain⟨a,b,c⟩:=x;obtain⟨C,J,Z⟩:=y;simp only[zq,eX,AV.agg.injEq,aV]at h;rw[Un.inj h.1,Gr.inj h.2.1,xw h.2.2]
def pU(u:Un)(g:Gr)(n:Nd):Bool:=
 if n.op=2 then decide (n.aP<g.params)
 else if n.op=23\/n.op=28 then decide (n.aP<u.ab.length)
 else if n.op=30 then decide (n.aP<u.funcs.length)&&decide ((n.ak.length:Int)-1=(u.funcs.map Gr.params).getD n.aP.toNat 0)
 else true
def MB(x:VrX):Prop:=(x.n.op=30->0<=x.n.aP)/\x.n.ak.length<2^30/\x.u.ab.length<2^30/\x.u.funcs.length<2^30
theorem zhm(x:VrX)(V:MB x):bA prog ρ 75 (zq x) (.bool (pU x.u x.g x.n)):=fF fit (pls:=pls) (l:=[]) trivial (.cons (.agg (Di _)) (.cons (.agg (Gr.pure _)) (.cons (.agg (Dh _)) .nil))) (.bool _) (by
 obtain⟨u,g,n⟩:=x;obtain⟨J,z,L,j⟩:=V;have hw:=lH 75;rw[zq];simp only[]at J z L j⊢;by_cases Y:n.op=30
 .have h0:=J Y;obtain⟨m,hm⟩:=jR h0;have e1:IntKind.wrap .i64 ((n.ak.length:Int)-1)=(n.ak.length:Int)-1:=fN ac ac;have hr:pU u g n=(decide ((m:Int)<u.funcs.length)&&decide ((n.ak.length:Int)-1=(u.funcs.map Gr.params).getD m 0)):=by
   rw[pU,ah ac,ah ac,ai Y,hm,eM]
  by_cases C:m<u.funcs.length
  .have I:(m:Int)<u.funcs.length:=by omega
   have Z:u.funcs[m]?=some u.funcs[m]:=aX C;have O:(u.funcs.map Gr.params).getD m 0=u.funcs[m].params:=by rw[dC,fd,Z];rfl
   rw[O]at hr;clear O;generalize u.funcs[m]=q at *;refine qe hw func75 AQ ?_;dsimp only[AQ,qd,a1,Nat.reduceAdd];repeat' (first
    |(apply ay ?_;clear hK K)|apply aT ?_|(apply a2 ?_ ?_<;>(intro hb hbp;try(cases hb;done)))|(apply az fun K hK=>?_)|(apply bV 8 [(1,21),(3,21),(4,21),(8,21),(9,21),(12,21),(14,21),(17,21)] fun K hK=>?_)|(apply bB ?_;try intro _)|(apply bY ?_ ?_<;>clear hK K)|(apply xr ?_ ?_<;>(intro hg hgp;try(cases hg;done)))|fail)
   all_goals first
    |exact bM
    |(refine⟨aE,_,rS,?_⟩
      simp only[aD];rw[hr];simp_all;done)
  .have I:¬(m:Int)<u.funcs.length:=by omega
   refine qe hw func75 AQ ?_;dsimp only[AQ,qd,a1,Nat.reduceAdd];repeat' (first
    |(apply ay ?_;clear hK K)|apply aT ?_|(apply a2 ?_ ?_<;>(intro hb hbp;try(cases hb;done)))|(apply az fun K hK=>?_)|(apply bV 8 [(1,21),(3,21),(4,21),(8,21),(9,21),(12,21),(14,21),(17,21)] fun K hK=>?_)|(apply bB ?_;try intro _)|(apply bY ?_ ?_<;>clear hK K)|(apply xr ?_ ?_<;>(intro hg hgp;try(cases hg;done)))|fail)
   all_goals first
    |exact bM
    |(refine⟨aE,_,rS,?_⟩
      simp only[aD];rw[hr,kS I];rfl)
 .refine qe hw func75 AQ ?_;dsimp only[AQ,qd,a1,Nat.reduceAdd];repeat' (first
   |(apply ay ?_;clear hK K)|apply aT ?_|(apply a2 ?_ ?_<;>(intro hb hbp;try(cases hb;done)))|(apply az fun K hK=>?_)|fail)
  all_goals first
   |exact bM
   |(refine⟨aE,_,rS,?_⟩
     simp only[aD];simp_all[pU];done))
end
section
def tyV4.tyF:=ad @dm (ad @cG (ad @ey (ad @gC (ad @ik (ad @xq (ad @C2 (ad @AF (ad @Da (@sw)))))))))
open tyV4
noncomputable def Tj:=qd (M:=81) f78.eq_1
def HI(h:m<2^32):IntKind.wrap .u32 (m:Int)=m:=by
 exact IntWalk.u32_in _ ac
def AR(h:a<2^32):(BitVec.ofInt 32 (a:Int)).toNat=a:=by
 rw[BitVec.ofInt_natCast,BitVec.toNat_ofNat,Nat.mod_eq_of_lt h]
theorem HJ(m:a<2^32)(hb:b<2^32):IntKind.wrap .u32 (((BitVec.ofInt (IntKind.bits .u32) (a:Int) |||BitVec.ofInt (IntKind.bits .u32) (b:Int)).toNat:Nat):Int)=((a |||b:Nat):Int):=by
 have e:IntKind.bits .u32=32:=rfl;rw[e,BitVec.toNat_or,AR m,AR hb];exact HI (zn m hb)
theorem Tl(m:a<2^32)(hb:b<2^32):IntKind.wrap .u32 (((BitVec.ofInt (IntKind.bits .u32) (a:Int) &&& ~~~ BitVec.ofInt (IntKind.bits .u32) (b:Int)).toNat:Nat):Int)=((uD a b:Nat):Int):=by
 have e:IntKind.bits .u32=32:=rfl;have h:(BitVec.ofInt 32 (a:Int) &&& ~~~ BitVec.ofInt 32 (b:Int)).toNat=uD a b:=by
  apply Nat.eq_of_testBit_eq;intro j;rw[Ax];rw[Mw,BitVec.getLsbD_and,BitVec.getLsbD_not,<-Mw,<-Mw,AR m,AR hb];by_cases I:j<32
  .simp[I]
  .have:a.testBit j=false:=Nat.testBit_lt_two_pow (iy m (Nat.pow_le_pow_right ac ac));simp[this]
 rw[e,h];refine HI ?_;rw[<-h];exact(BitVec.ofInt 32 (a:Int) &&& ~~~ BitVec.ofInt 32 (b:Int)).isLt
def HK(m:a<2^32):uD a b<2^32:=by
 apply S8;intro j I;rw[Ax];have:a.testBit j=false:=Nat.testBit_lt_two_pow (iy m (Nat.pow_le_pow_right ac I));simp[this]
def ji(h:qG):qB:=h.map fun(m:Nat)=>AV.int .u32 (m:Int)
def tK(h:qG):AV:=.aE (h.map fun(m:Nat)=>[AV.int .u32 (m:Int)])
def MC(h:qG):(ji h).length=h.length:=dk _
theorem HL{D:BinOp->Sx->Sx->qK}{t:TypeId}{I:IntKind}(h:m<32):dQ prog D .shl t (.int .u32 1) (.int I (m:Int))=some (.int .u32 ((2^ m:Nat):Int)):=by
 have e:dQ prog D .shl t (.int .u32 1) (.int I (Int.ofNat m))=some (.int .u32 (IntKind.wrap .u32 (1*2^ min m 32))):=rfl;rw[show((m:Nat):Int)=Int.ofNat m from rfl,e,show min m 32=m by omega];have:(1:Int)*2^ m=((2^ m:Nat):Int):=by push_cast;omega
 rw[this,HI (HH ac h)]
def Tm{D:BinOp->Sx->Sx->qK}{t:TypeId}{k:IntKind}{a b:Int}:dQ prog D .andNot t (.int k a) (.int k b)=some (.int k (k.wrap (BitVec.ofInt k.bits a &&& ~~~ BitVec.ofInt k.bits b).toNat)):=tu
theorem zhn(n:Nat):jO [.int .u32 0] n=ji (List.replicate n 0):=by
 induction n with
 |zero=>rfl
 |succ n ih=>simp only[jO,ih];simp[ji,vY]
theorem Tn(n:Nat)(L:n<2^40):jq prog H 104 (.int .i64 n) (.int .i64 n)=some (.sl H.next 0 n 1,H.alloc (.cells (ji (List.replicate n 0)) 0 true)):=by
 have Y:ej=70368744177664:=rfl;show jq prog H 104 (.int .i64 (Int.ofNat n)) (.int .i64 (Int.ofNat n))=_;simp only[jq,underlying104,GZ,Rw,Rz];rw[ai ⟨aG _,uJ,uJ,rfl⟩,zhn]
def HM{n:Nat}(Y:m<n):dK prog 104 (.sl r 0 n 1) (.int .i64 (m:Int))=some (.ptr r m):=by rw[pG underlying104 GZ Y];simp
theorem HN{imm:Nat}(hg:H.get r=some (.cells (ji h) imm true))(Y:m<h.length):eP prog H 148 (.ptr r m)=some (.int .u32 ((h.getD m 0:Nat):Int)):=by
 rw[yI underlying148 rfl hg,ji,fd,dC,aX Y];rfl
def xP(hg:H.get r=some (.cells (ji h) 0 true))(Y:m<h.length)(x:Nat):jY prog H 148 (.ptr r m) (.int .u32 (x:Int))=some (H.set r (.cells (ji (h.set m x)) 0 true)):=by
 have I:m<(ji h).length:=by rw[MC];exact Y
 rw[yJ,hg,GZ,CK,Ab.cells_int,splice_one _ I,ai ⟨rfl,eR _,I,rfl⟩];simp[ji,xD]
theorem To(H:Hp)(n:Nat):∀h:qG,iceL (iceV H (n+1)) (ji h)=some (ji h)
 |[]=>rfl
 |a::l=>by
  have:=To H n l;have e:iceV H (n+1) (.int .u32 (a:Int))=some (.int .u32 (a:Int)):=rfl;simp only[ji,eC,iceL,e]at this⊢;rw[this]
theorem zho(h:qG):iw 1 h.length (ji h)=h.map fun(m:Nat)=>[AV.int .u32 (m:Int)]:=by
 induction h with
 |nil=>rfl
 |cons a l ih=>simp only[ji,eC,fc,iw,S1,AP,Aq,gm]at ih⊢;rw[ih]
theorem Tp(hg:H.get r=some (.cells (ji (cA l l.length++List.replicate 0 0)) 0 true)):iceV H 3 (.sl r 0 l.length 1)=some (tK (cA l l.length)):=by
 have L:=rI l l.length;rw[Mx,bq]at hg;generalize cA l l.length=h at *;have e:iceV H 3 (.sl r 0 l.length 1)=match H.get r with
  |some (.cells O _ _)=>match iceL (iceV H 2) ((O.drop 0).take (l.length*1))with
   |some C=>if C.length=l.length*1 then some (.aE (iw 1 l.length C))else none
   |none=>none
  |_=>none:=rfl
 rw[e,hg];simp only[gm,lW];rw[je (by rw[MC];omega),To];simp only[MC,L,dG];rw[<-L,zho];rfl
def AS(l:qF):Prop:=pS l/\∀i n,l[i]?=some n->znR n i
theorem MD(L:AS l)(O:i<=l.length)(I:j<i):(cA l i).getD j 0<2^16:=by
 apply S8;intro t m;rw[Qy i O (fun j n _ h=>L.2 j n h) j I t,kS ac];rfl
set_option maxRecDepth 100000 in
theorem zhp(l:qF)(hl:AS l):bA prog ρ 78 [jV l] (tK (cA l l.length)):=xu (m:=3) (cfg:=aA pls [uN]) fit (rG ρ) (gX.cu ⟨HC ρ,trivial⟩) (.cons (AN _) .nil) (by
 have hl1:=hl.1.1;have hw:zd0 (aA pls [uN]) 78:=gY (fun _=>rfl) rfl;have q16:(16:Int)≠0:=aF;have hmk:∀H:Hp,jq prog H 104 (.int .i64 l.length) (.int .i64 l.length)=some (.sl H.next 0 l.length 1,H.alloc (.cells (ji (List.replicate l.length 0)) 0 true)):=fun H=>Tn _ ac;refine qe hw func78 Tj ?_;dsimp only[Tj,qd,a1,Nat.reduceAdd];refine dX ?_;refine cP [2,3,12,13] [] 14 l.length (fun i E H=>H.get 0=some (.cells (ji (cA l i++List.replicate (l.length-i) 0)) 0 true)) eE (by rw[aL,ai cN];simp[cA]) ?_;rintro i E L hi hcE hrH hnH hsI hg;(try simp only[bz,a7,aV,aK,bb,Nat.reduceBEq, *]at hcE);(try simp only[a7,bb, *]at hrH);(try simp only[aS,cL,bR]at hnH);have hB0:(0 == L.next)=false:=aZ ac;have hC0:(L.next == 0)=false:=aZ ac;have hn2:1<=L.next:=hnH
 by_cases hlt:i<l.length
 .have hlt':(i:Int)<l.length:=by omega
  have hgx:l[i]?=some l[i]:=aX hlt;have I:=hl.2 i _ hgx;have hnk:=hl.1.2 _ (dE hlt);have hms:cA l (i+1)=cA l i++[mI l[i] (cA l i)]:=by rw[cA,hgx]
  have hmlt:∀j,j<i->(cA l i).getD j 0<2^16:=fun j hj=>MD hl ac hj;have hml:=rI l i;generalize l[i]=n at *;generalize cA l i=h at *;have hrep:List.replicate (l.length-i) (0:Nat)=0::List.replicate (l.length-(i+1)) 0:=Mr;rw[hrep]at hg;have hzl:(h++0::List.replicate (l.length-(i+1)) (0:Nat)).length=l.length:=cZ;generalize List.replicate (l.length-(i+1)) (0:Nat)=z at *;have e0:(0 == L.next)=false:=aZ ac;have hgA:∀b c,((L.alloc b).set L.next c).get 0=some (.cells (ji (h++0::z)) 0 true):=fun b c=>Ms;have hix:dK prog 104 (.sl 0 0 l.length 1) (.int .i64 (i:Int))=some (.ptr 0 i):=HM hlt;refine BV ?_;(apply bU (fun hb hbp=>?_) (fun hb hbp=>?_)<;>try(cases hb;done));refine mT ?_;generalize hHb:Hp.set (L.alloc _) _ _=Hb;have nb:L.next+1<=Hb.next:=Dz
  have gb:Hb.get 0=some (.cells (ji (h++0::z)) 0 true):=by rw[<-hHb];exact hgA _ _
  have g5:Hb.get L.next=some (.cells n.cells 0 true):=DA
  clear hHb hgA;have hset:∀x:Nat,(h++0::z).set i x=h++x::z:=fun x=>Mu;refine Mp (fun E' H'=>E'.at 2=.ao/\E'.at 3=.sl 0 0 l.length 1/\E'.at 4=.int .i64 i/\E'.at 5=.ptr L.next 0/\E'.at 12=jV l/\E'.at 13=.int .i64 l.length/\E'.at 14=.int .i64 i/\H'.get 0=some (.cells (ji (h++(if n.op=3 then 2^ (n.aP.tdiv 16).toNat else 0)::z)) 0 true)/\H'.get L.next=some (.cells n.cells 0 true)/\L.next+1<=H'.next) ?_ ?_
  .by_cases h3:n.op=3
   .obtain⟨m0,bt⟩:=I.lv h3;have hd:n.aP.tdiv 16=n.aP/16:=sD m0;have hd0:0<=n.aP.tdiv 16:=by rw[hd];omega
    obtain⟨m,hm⟩:=jR hd0;have hm16:m<16:=ac;rw[ai h3,hm,eM];have ew:IntKind.wrap .i64 (n.aP.tdiv 16)=m:=Mt;have ew2:IntKind.wrap .u64 (m:Int)=m:=zo _ ac;have hsh:∀(D:BinOp->Sx->Sx->qK) (t:TypeId),dQ prog D .shl t (.int .u32 1) (.int .u64 (m:Int))=some (.int .u32 ((2^ m:Nat):Int)):=fun D t=>HL ac;clear hd hm hd0;repeat' (first
     |apply Ry.o ?_|(apply a2 ?_ ?_<;>(intro hb hbp;try(cases hb;done)))|(apply az fun K hK=>?_)|fail)
    refine oK cS cS (xP gb ac _) ?_;refine dX ?_;exact⟨rfl,eE,eE,eE,eE,eE,eE,eE,by rw[aQ,ai rfl,hset],by rw[aQ,ah ac];exact g5,nb⟩
   .rw[ah h3];refine jp (fun hb hbp=>?_);exact⟨rfl,eE,eE,eE,eE,eE,eE,eE,gb,g5,nb⟩
  clear gb g5 nb;rintro E3 H3 ⟨k2,ee,fm,dF,k12,k13,k14,g30,g35,n3⟩;dsimp only[oJ];refine mT ?_;refine Mp (fun E' H'=>E'.at 2=.ao/\E'.at 3=.sl 0 0 l.length 1/\E'.at 4=.int .i64 i/\E'.at 5=.ptr L.next 0/\E'.at 12=jV l/\E'.at 13=.int .i64 l.length/\E'.at 14=.int .i64 i/\(n.op=31->E'.at 6=.int .u32 ((2^ n.aP.toNat:Nat):Int))/\H'=H3) ?_ ?_
  .by_cases Z:n.op=31
   .obtain⟨m0,bt,_⟩:=I.lp Z;obtain⟨m,hm⟩:=jR m0;have ew2:IntKind.wrap .u64 (m:Int)=m:=zo _ ac;have hsh:∀(D:BinOp->Sx->Sx->qK) (t:TypeId),dQ prog D .shl t (.int .u32 1) (.int .u64 (m:Int))=some (.int .u32 ((2^ m:Nat):Int)):=fun D t=>HL ac;rw[hm,eM];refine jp (fun hb hbp=>?_);exact⟨rfl,eE,eE,eE,eE,eE,eE,eE,fun _=>eE,rfl⟩
   .refine jp (fun hb hbp=>?_);exact⟨rfl,eE,eE,eE,eE,eE,eE,eE,fun h=>absurd h Z,rfl⟩
  clear k2 ee fm dF k12 k13 k14 E3;rintro E3 _ ⟨k2,ee,fm,dF,k12,k13,k14,k6,rfl⟩;dsimp only[oJ];refine dX ?_;have hmm:mI n h=kV n h 0 n.ak (if n.op=3 then 2^ (n.aP.tdiv 16).toNat else 0):=rfl;have hcur0:(if n.op=3 then 2^ (n.aP.tdiv 16).toNat else 0:Nat)<2^32:=by
   by_cases h3:n.op=3
   .rw[ai h3];obtain⟨m0,bt⟩:=I.lv h3;have hd:n.aP.tdiv 16=n.aP/16:=sD m0;exact HH ac ac
   .rw[ah h3];decide
  generalize (if n.op=3 then 2^ (n.aP.tdiv 16).toNat else 0:Nat)=cur0 at *;refine cP [2,3,4,5,6,12,13,14,38,39] [] 40 n.ak.length (fun j E H=>∃C,H.get 0=some (.cells (ji (h++C::z)) 0 true)/\H.get L.next=some (.cells n.cells 0 true)/\C<2^32/\mI n h=kV n h j (n.ak.drop j) C) eE ⟨cur0,g30,g35,hcur0,by rw[hmm,gm]⟩ ?_;clear g30 g35 hcur0 hmm;rintro j E4 H4 hj hcE hrH hnH hsI ⟨C,J,g45,O,hJ⟩;(try simp only[bz,a7,aV,aK,bb,Nat.reduceBEq, *]at hcE);(try simp only[a7, *]at hrH);(try simp only[aS,bK,cL,bR,Nat.reduceAdd]at hnH);by_cases hjt:j<n.ak.length
  .have hjt':(j:Int)<n.ak.length:=by omega
   have hgy:n.ak[j]?=some n.ak[j]:=aX hjt;obtain⟨d0,d1⟩:=I.ak _ (dE hjt);have Y:kV n h j (n.ak.drop j) C=kV n h (j+1) (n.ak.drop (j+1)) (C |||oN n h j n.ak[j]):=by rw[i4 hjt,kV]
   generalize n.ak[j]=kd at *;obtain⟨d,rfl⟩:=jR d0;have hdi:d<i:=ac;have hixd:dK prog 104 (.sl 0 0 l.length 1) (.int .i64 (d:Int))=some (.ptr 0 d):=HM ac;have hlc:∀x:Nat,(h++x::z).length=l.length:=fun x=>by rw[<-hzl];simp
   have hldi:=HN J (m:=i) tJ;have hldd:=HN J (m:=d) tJ;have hgi:(h++C::z).getD i 0=C:=SX;have hgd:(h++C::z).getD d 0=h.getD d 0:=SY;rw[hgi]at hldi;rw[hgd]at hldd;have hdl:=hmlt d hdi;have V:∀x:Nat,(h++C::z).set i x=h++x::z:=fun x=>Mu;have hkd:oN n h j (d:Int)=if n.op=31/\dy n.ak.length<=j then uD (h.getD d 0) (2^ n.aP.toNat)else h.getD d 0:=by rw[oN,eM]
   rw[hkd]at Y;generalize h.getD d 0=y at *;have hy:y<2^32:=ac;have e1:=HJ O hy;by_cases Z:n.op=31
   .have k6':=k6 Z;obtain⟨m0,bt,_⟩:=I.lp Z;have hown:2^ n.aP.toNat<2^32:=HH ac ac;by_cases hlv:dy n.ak.length<=j
    .rw[ai ⟨Z,hlv⟩]at Y;have e2:=Tl hy hown;have e3:=HJ O (HK (b:=2^ n.aP.toNat) hy);have gh0:=@Tm;repeat' (first
      |(apply ay ?_;clear hK K)|apply aT ?_|(apply eA ?_;first|refine Rx.k (AL (fun _=>rfl) _ ac _) ?_)|(apply cR ?_ ?_<;>(intro hg hgp;try(cases hg;done)))|(apply a2 ?_ ?_<;>(intro hb hbp;try(cases hb;done)))|(apply az fun K hK=>?_)|(apply uH 14 fun K hK=>?_)|fail)
     refine oK cS cS (xP J tJ _) ?_;refine dX ?_;refine⟨ac,aW,aW,b8,Dk,?_⟩;exact⟨_,Mq,AO,zn O (HK hy),by rw[hJ,Y]⟩
    .rw[ah (fun c=>hlv c.2)]at Y;repeat' (first
      |(apply ay ?_;clear hK K)|apply aT ?_|(apply eA ?_;first|refine Rx.k (AL (fun _=>rfl) _ ac _) ?_)|(apply cR ?_ ?_<;>(intro hg hgp;try(cases hg;done)))|(apply a2 ?_ ?_<;>(intro hb hbp;try(cases hb;done)))|(apply az fun K hK=>?_)|(apply uH 15 fun K hK=>?_)|fail)
     refine oK cS cS (xP J tJ _) ?_;refine dX ?_;refine⟨ac,aW,aW,b8,Dk,?_⟩;exact⟨_,Mq,AO,zn O hy,by rw[hJ,Y]⟩
   .rw[ah (fun c=>Z c.1)]at Y;repeat' (first
     |(apply ay ?_;clear hK K)|apply aT ?_|(apply cR ?_ ?_<;>(intro hg hgp;try(cases hg;done)))|(apply a2 ?_ ?_<;>(intro hb hbp;try(cases hb;done)))|(apply az fun K hK=>?_)|(apply uH 15 fun K hK=>?_)|fail)
    refine oK cS cS (xP J tJ _) ?_;refine dX ?_;refine⟨ac,aW,aW,b8,Dk,?_⟩;exact⟨_,Mq,AO,zn O hy,by rw[hJ,Y]⟩
  .have hjt':¬(j:Int)<n.ak.length:=by omega
   have hjd:n.ak.drop j=[]:=oc ac;rw[hjd]at hJ;have hJ2:mI n h=C:=hJ;refine jp (fun hb hbp=>?_);refine⟨ac,aW,aW,b8,sJ,?_⟩;rw[hms,hJ2,kI];exact J
 .have hlt':¬(i:Int)<l.length:=by omega
  refine jp (fun hb hbp=>?_);all_goals refine qi ?_
  have hie:i=l.length:=ac;rw[hie,rz]at hg;exact Tp hg)
end
section
def tyR3c.tyF:=ad @dm (ad @cG (ad @eG (ad @ij (ad @l8 (ad @jU (ad @jx (ad @i7 (ad @jh (ad @iC (ad @tG (ad @nZ (ad @kg (ad @Sy (ad @Sz (@SA)))))))))))))))
open tyR3c
noncomputable def Tq:=qd (M:=50) f144.eq_1
noncomputable def Tr:=qd (M:=94) f93.eq_1
mutual
def rW:St->Bool
 | .mk _ _ _ _ a v I O V=>decide ((20:Int)<dn a)||decide ((20:Int)<dn v)||ip O||ip V||I.any fun e=>decide ((20:Int)<dn e)
def ip:qJ->Bool
 |[]=>false
 |x::l=>rW x||ip l
end
theorem DD(x:St):rW x=(decide ((20:Int)<dn x.bz)||decide ((20:Int)<dn x.value)||ip x.bm||ip x.bO||x.args.any fun e=>decide ((20:Int)<dn e)):=by cases x;rw[rW];rfl
noncomputable def DE:En:=⟨145,false,co (fun x=>x.sz<2^60) me fun x=>.int .i64 (dn x)⟩
def Ts:de prog ρ DE:=dA fun x I=>zgt ρ x I
def zhq:∀x:qJ,bF x<2^60->bA prog ρ 144 (o7 x) (.bool (ip x)):=
 zd fit (pls:=pls) (l:=[DE]) ⟨Ts ρ,trivial⟩ (fun x=>bF x) (ok:=fun x=>bF x<2^60) (enc:=o7) (out:=fun x=>.bool (ip x)) (fun x _=>.cons (Dd _) .nil) (fun x _=>.bool _) (fun x hx=>by
 have hw:=zh (sz:=fun x:qJ=>bF x) (ok:=fun x=>bF x<2^60) (out:=fun x=>.bool (ip x)) AK (f:=144) (l:=[DE]) x;generalize hl:(⟨144,false,co (fun y=>bF y<2^60/\bF y<bF x) o7 fun x=>.bool (ip x)⟩:En)::[DE]=l at hw⊢;have kr:∀(y:qJ),bF y<bF x->∀H,aR prog (aA pls l) 144 [.aE (y.map St.cells)] H fun v H'=>v=.bool (ip y)/\H'=H:=fun y h2 H=>by
  subst hl;exact cQ (enc:=o7) (out:=fun x=>.bool (ip x)) AK (x:=y) rfl ⟨ac,h2⟩
 have kd:∀y:Ex,y.sz<2^60->∀H,aR prog (aA pls l) 145 [.agg y.cells] H fun v H'=>v=.int .i64 (dn y)/\H'=H:=fun y h1 H=>by
  subst hl;exact cQ (enc:=me) (out:=fun x=>.int .i64 (dn x)) uM (x:=y) rfl h1
 have hlen:=yL x;change aR _ _ _ [.aE (x.map St.cells)] _ _;refine a4 (M:=50) (rs:=[.tmp 2]) hw.call hw.bU hw.cm func144 rfl rfl Tq.2.1 rfl ?_;dsimp only[Tq,qd,a1,Nat.reduceAdd];refine dX ?_;refine cP [0] [] 3 x.length (fun i E H=>ip x=ip (x.drop i)) eE aB ?_;rintro i E m hi I J L hsI O;(try simp only[bz,a7,aV,aK,bb,Nat.reduceBEq, *]at I);(try simp only[a7, *]at J);(try simp only[cL,]at L);repeat' (first
  |(apply ay ?_;clear hK K)|apply a9 ?_|(apply bU ?_ ?_<;>(intro hb hbp;try(cases hb;done)))|(apply az fun K hK=>?_)|fail)
 .have C:i<x.length:=by simpa using hb
  have hgx:x[i]?=some x[i]:=aX C;have hsm:=tz (dE C);have hsz:=x[i].a9;have hla:=xe x[i].args;have z:ip (x.drop i)=(rW x[i]||ip (x.drop (i+1))):=oW;rw[DD]at z;repeat' (first
   |(apply ay ?_;clear hK K)|apply a9 ?_|(apply fq ?_;first|refine Rx.k (kd _ ac _) ?_|refine Rx.k (kr _ ac _) ?_)|(apply gL ?_ ?_<;>(intro hg hgp;try(cases hg;done)))|(apply bU ?_ ?_<;>(intro hb hbp;try(cases hb;done)))|(apply az fun K hK=>?_)|fail)
  rotate_left
  .refine cP [0,3,4] [m.next] 5 x[i].args.length (fun j E H=>(x[i].args.any fun e=>decide ((20:Int)<dn e))=(x[i].args.drop j).any fun e=>decide ((20:Int)<dn e)) eE aB ?_;rintro j E3 H3 hj I J L hsI V;(try simp only[bz,a7,aV,aK,bb,Nat.reduceBEq, *]at I);(try simp only[bz,a7,aV,aK,bb, *]at J);(try simp only[aS,bK,]at L);have hB0:(m.next == H3.next)=false:=aZ ac;have hC0:(H3.next == m.next)=false:=aZ ac;repeat' (first
    |(apply ay ?_;clear hK K)|apply a9 ?_|(apply bU ?_ ?_<;>(intro hb hbp;try(cases hb;done)))|(apply az fun K hK=>?_)|fail)
   .have Y:j<x[i].args.length:=by simpa using hb
    have hgx2:x[i].args[j]?=some x[i].args[j]:=aX Y;have hsm2:=ux (dE Y);have Z:((x[i].args.drop j).any fun e=>decide ((20:Int)<dn e))=(decide ((20:Int)<dn x[i].args[j])||(x[i].args.drop (j+1)).any fun e=>decide ((20:Int)<dn e)):=by rw[i4 Y];rfl
    repeat' (first
     |(apply ay ?_;clear hK K)|apply a9 ?_|(apply fq ?_;first|refine Rx.k (kd _ ac _) ?_)|(apply bU ?_ ?_<;>(intro hb hbp;try(cases hb;done)))|(apply az fun K hK=>?_)|fail)
    .all_goals refine qi ?_
     rw[O,z,V,Z];(try simp only[fA]at *);simp only[*,nR,oY,nX,sN,]
    .refine⟨ac,aW,aW,b8,(by simp only[aK,Nat.reduceBEq, *];exact il (n:=x[i].args.length) ac ac),?_⟩;rw[V,Z];(try simp only[fA]at *);simp only[*,l5,]
   .refine⟨ac,aW,aW,b8,AH,?_⟩;have hje:j=x[i].args.length:=HF;rw[hje,kL,xC]at V;rw[O,z,V];(try simp only[fA]at *);simp only[*,l5,oY,]
  all_goals
   all_goals refine qi ?_
   rw[O,z];(try simp only[fA]at *);simp only[*,oY,nX,sN,]
 .all_goals refine qi ?_
  rw[O,show i=x.length by simp at hb;omega];simp[ip])
def nJ(p:Pr):qB:=[.agg p.cells]
def AT(x y:Pr)(h:nJ x=nJ y):x=y:=by simp only[nJ,eX,AV.agg.injEq,aV]at h;exact Pr.inj h
noncomputable def Tt:En:=⟨143,false,co (fun x=>bF x.1+x.2<2^60) we xI⟩
def zhr:de prog ρ Tt:=dA fun x I=>zgy ρ x I
noncomputable def Tu:En:=⟨144,false,co (fun x=>bF x<2^60) o7 fun x=>.bool (ip x)⟩
def zhs:de prog ρ Tu:=dA fun x I=>zhq ρ x I
def rX(f:Fu):Bool:=decide ((6:Int)<f.params.length)||decide ((8:Int)<f.aK.length)||decide ((200:Int)<nS f.body)||decide ((16:Int)<eV f.body)||decide ((20:Int)<iQ f.body 0)||ip f.body||decide ((20:Int)<dn f.value)
def wi(a:Ar):Bool:=decide (a.len<1)||decide (16<a.len)
def k3(p:Pr):Bool:=decide ((4:Int)<p.ab.length)||decide ((8:Int)<p.funcs.length)||p.ab.any wi||p.funcs.any rX
noncomputable def DF:qH:=[DE,Tt,Tu]
def zht:gX prog ρ DF:=⟨Ts ρ,zhr ρ,zhs ρ,trivial⟩
theorem zhu(p:Pr)(hz:p.sz<2^60):bA prog ρ 93 [.agg p.cells] (.bool (k3 p)):=fF fit (pls:=pls) (zht ρ) (.cons (.agg p.pure) .nil) (.bool _) (by
 have hw:zd0 (aA pls DF) 93:=gY (fun _=>rfl) rfl;have kd:∀y:Ex,y.sz<2^60->∀H,aR prog (aA pls DF) 145 [.agg y.cells] H fun v H'=>v=.int .i64 (dn y)/\H'=H:=fun y j H=>cQ (enc:=me) (out:=fun x=>.int .i64 (dn x)) uM (x:=y) rfl j;have kt:∀y:qJ,bF y<2^60->∀H,aR prog (aA pls DF) 144 [.aE (y.map St.cells)] H fun v H'=>v=.bool (ip y)/\H'=H:=fun y j H=>cQ (enc:=o7) (out:=fun x=>.bool (ip x)) AK (x:=y) rfl j;have kc:∀y:qJ,bF y<2^60->∀H,aR prog (aA pls DF) 143 [.aE (y.map St.cells),.int .i64 0] H fun v H'=>v=.bH [.int .i64 (nS y),.int .i64 (eV y),.int .i64 (iQ y 0)]/\H'=H:=fun y j H=>cQ (enc:=we) (out:=xI) Mb (x:=(y,0)) rfl z7;have hpz:p.sz=1+jt p.ab+iA p.funcs:=rfl;have hla:=vK p.ab;have hlf:=vJ p.funcs;refine qe hw func93 Tr ?_;dsimp only[Tr,qd,a1,Nat.reduceAdd];repeat' (first
  |(apply ay ?_;clear hK K)|apply a9 ?_|(apply gL ?_ ?_<;>(intro hg hgp;try(cases hg;done)))|(apply bU ?_ ?_<;>(intro hb hbp;try(cases hb;done)))|(apply az fun K hK=>?_)|fail)
 all_goals (first|(refine⟨aE,_,aO,?_⟩;(try simp only[aD]);rw[k3];(try simp only[fA]at *);simp only[*,nR,nX,sN,];done)|skip)
 .refine cP [1] [0] 3 p.ab.length (fun i E H=>p.ab.any wi=(p.ab.drop i).any wi) eE aB ?_;rintro i E Y hi I Z L O m;(try simp only[bz,a7,aV,aK,bb,Nat.reduceBEq, *]at I);(try simp only[bz,a7,aV,aK,bb, *]at Z);(try simp only[aS,cL,bR]at L);have hB0:(0 == Y.next)=false:=aZ ac;have hC0:(Y.next == 0)=false:=aZ ac;repeat' (first
   |(apply ay ?_;clear hK K)|apply a9 ?_|(apply bU ?_ ?_<;>(intro hb hbp;try(cases hb;done)))|(apply az fun K hK=>?_)|fail)
  .have C:i<p.ab.length:=by simpa using hb
   have hgx:p.ab[i]?=some p.ab[i]:=aX C;have z:(p.ab.drop i).any wi=(wi p.ab[i]||(p.ab.drop (i+1)).any wi):=SS;rw[wi]at z;repeat' (first
    |(apply ay ?_;clear hK K)|apply a9 ?_|(apply gL ?_ ?_<;>(intro hg hgp;try(cases hg;done)))|(apply bU ?_ ?_<;>(intro hb hbp;try(cases hb;done)))|(apply az fun K hK=>?_)|fail)
   all_goals (first|(refine⟨aE,_,aO,?_⟩;(try simp only[aD]);rw[k3,m,z];(try simp only[fA]at *);simp only[*,nR,oY,nX,sN,];done)|skip)
   refine⟨ac,aW,aW,b8,HG,?_⟩;rw[m,z];(try simp only[fA]at *);simp only[*,l5,oY,]
  .have J:i=p.ab.length:=by simp at hb;omega
   rw[J,kL,xC]at m;clear hb J O hi;refine cP [1] [0] 4 p.funcs.length (fun i E H=>p.funcs.any rX=(p.funcs.drop i).any rX) eE aB ?_;rintro i E Y hi I Z L O V;(try simp only[bz,a7,aV,aK,Nat.reduceBEq, *]at I);(try simp only[bz,a7,aV, *]at Z);(try simp only[aS,bK,cL,bR,Nat.reduceAdd]at L);have hB0:(0 == Y.next)=false:=aZ ac;have hC0:(Y.next == 0)=false:=aZ ac;repeat' (first
    |(apply ay ?_;clear hK K)|apply a9 ?_|(apply bU ?_ ?_<;>(intro hb hbp;try(cases hb;done)))|(apply az fun K hK=>?_)|fail)
   .have C:i<p.funcs.length:=by simpa using hb
    have hgx:p.funcs[i]?=some p.funcs[i]:=aX C;have z:(p.funcs.drop i).any rX=(rX p.funcs[i]||(p.funcs.drop (i+1)).any rX):=SS;rw[rX]at z;have hsm:=uy (dE C);have hsz:p.funcs[i].sz=1+p.funcs[i].name.length+gl p.funcs[i].params+gl p.funcs[i].aK+bF p.funcs[i].body+p.funcs[i].value.sz:=rfl;repeat' (first
     |(apply ay ?_;clear hK K)|apply a9 ?_|(apply fq ?_;first|refine Rx.k (kd _ ac _) ?_|refine Rx.k (kt _ ac _) ?_|refine Rx.k (kc _ ac _) ?_)|(apply gL ?_ ?_<;>(intro hg hgp;try(cases hg;done)))|(apply bU ?_ ?_<;>(intro hb hbp;try(cases hb;done)))|(apply az fun K hK=>?_)|fail)
    all_goals (first|(refine⟨aE,_,aO,?_⟩;(try simp only[aD]);rw[k3,m,V,z];(try simp only[fA]at *);simp only[*,nR,oY,nX,sN,];done)|skip)
    refine⟨ac,aW,aW,b8,zf,?_⟩;rw[V,z];(try simp only[fA]at *);simp only[*,l5,oY,]
   .all_goals refine qi ?_
    have J:i=p.funcs.length:=HF;rw[J,kL,xC]at V;rw[k3,m,V];(try simp only[fA]at *);simp only[*,oY,])
end
section
def tyR3d.tyF:=ad @dm (ad @cG (ad @eG (ad @jh (ad @iC (ad @i7 (@kg))))))
open tyR3d
noncomputable def Tv:=qd (M:=128) f147.eq_1
noncomputable def Tw:=qd (M:=27) f208.eq_1
def ph(x:Ex):Bool:=
 if x.az=1 then decide ((x.ak.length:Int)=0)&&decide (x.name=[])&&decide (x.op=0)
 else if x.az=2 then decide ((x.ak.length:Int)=0)&&decide (x.n=0)&&decide (x.op=0)&&io x.name
 else if x.az=3 then decide ((x.ak.length:Int)=1)&&decide (x.n=0)&&decide (x.op=0)&&io x.name
 else if x.az=4 then decide (x.n=0)&&decide (x.name=[])&&((decide ((x.ak.length:Int)=2)&&sM x.op)||(decide ((x.ak.length:Int)=1)&&(decide (x.op=20)||decide (x.op=21))))
 else if x.az=5 then decide ((x.ak.length:Int)=3)&&decide (x.n=0)&&decide (x.name=[])&&decide (x.op=0)
 else false
mutual
def fB:Ex->Bool
 | .mk k n s o L=>fO L&&ph (.mk k n s o L)
def fO:qM->Bool
 |[]=>true
 |e::es=>fB e&&fO es
end
theorem xQ(x:Ex):fB x=(fO x.ak&&ph x):=by cases x;rw[fB];rfl
noncomputable def HO:En:=⟨40,false,co (fun s=>s.length<2^60) tH fun s=>.bool (io s)⟩
def ME:de prog ρ HO:=dA fun x I=>zgb ρ x I
noncomputable def Tx:En:=⟨187,false,co (fun _=>True) (fun n:Int=>[.int .i64 n]) fun n=>.bool (sM n)⟩
def zhv:de prog ρ Tx:=dA fun x _=>zfU ρ x
def Ty(x y:Int)(h:([.int .i64 x]:qB)=[.int .i64 y]):x=y:=lV
noncomputable def DG:En:=⟨207,false,co (fun _=>True) me fun x=>.bool (zeroE x)⟩
def Tz:de prog ρ DG:=dA fun x _=>zfV ρ x
noncomputable def MF:qH:=[HO,Tx]
def zhw:gX prog ρ MF:=⟨ME ρ,zhv ρ,trivial⟩
def zhx:∀x:Ex,x.sz<2^60->bA prog ρ 147 (me x) (.bool (fB x)):=
 zd fit (pls:=pls) (zhw ρ) (fun x=>x.sz) (ok:=fun x=>x.sz<2^60) (enc:=me) (out:=fun x=>.bool (fB x)) (fun x _=>.cons (.agg x.pure) .nil) (fun x _=>.bool _) (fun x hx=>by
 have hw:=zh (sz:=fun x:Ex=>x.sz) (ok:=fun x=>x.sz<2^60) (out:=fun x=>.bool (fB x)) uM (f:=147) (l:=MF) x;generalize Y:(⟨147,false,co (fun y=>y.sz<2^60/\y.sz<x.sz) me fun x=>.bool (fB x)⟩:En)::MF=l at hw⊢;have kr:∀y:Ex,y.sz<x.sz->∀H,aR prog (aA pls l) 147 [.agg y.cells] H fun v H'=>v=.bool (fB y)/\H'=H:=fun y h2 H=>by
  subst Y;exact cQ (enc:=me) (out:=fun x=>.bool (fB x)) uM (x:=y) rfl ⟨ac,h2⟩
 have kv:∀s:qD,s.length<2^60->∀H,aR prog (aA pls l) 40 [.ay s] H fun v H'=>v=.bool (io s)/\H'=H:=fun s h1 H=>by
  subst Y;exact cQ (enc:=tH) (out:=fun x=>.bool (io x)) Dr (x:=s) rfl h1
 have kb:∀n:Int,∀H,aR prog (aA pls l) 187 [.int .i64 n] H fun v H'=>v=.bool (sM n)/\H'=H:=fun n H=>by
  subst Y;exact cQ (enc:=fun n:Int=>[.int .i64 n]) (out:=fun x=>.bool (sM x)) Ty (x:=n) rfl trivial
 have hsz:=x.a9;have j:=xe x.ak;change aR _ _ _ [.agg x.cells] _ _;refine a4 (M:=128) (rs:=[.tmp 2]) hw.call hw.bU hw.cm func147 rfl rfl Tv.2.1 rfl ?_;dsimp only[Tv,qd,a1,Nat.reduceAdd];refine mA ?_;refine cP [1] [0] 3 x.ak.length (fun i E H=>fO x.ak=fO (x.ak.drop i)) eE aB ?_;rintro i E m hi Z J L hsI I;(try simp only[bz,a7,aV,aK,bb,Nat.reduceBEq, *]at Z);(try simp only[bz,a7,aV,aK,bb, *]at J);(try simp only[aS,cL,bR]at L);have hB0:(0 == m.next)=false:=aZ ac;have hC0:(m.next == 0)=false:=aZ ac;repeat' (first
  |(apply ay ?_;clear hK K)|apply a9 ?_|(apply fq ?_;first|refine Rx.k (kv _ ac _) ?_|refine Rx.k (kb _ _) ?_)|(apply gL ?_ ?_<;>(intro hg hgp;try(cases hg;done)))|(apply bU ?_ ?_<;>(intro hb hbp;try(cases hb;done)))|(apply az fun K hK=>?_)|fail)
 .have C:i<x.ak.length:=by simpa using hb
  have hgx:x.ak[i]?=some x.ak[i]:=aX C;have hm:=ux (dE C);have z:fO (x.ak.drop i)=(fB x.ak[i]&&fO (x.ak.drop (i+1))):=oW;repeat' (first
   |(apply ay ?_;clear hK K)|apply a9 ?_|(apply fq ?_;first|refine Rx.k (kr _ ac _) ?_)|(apply bU ?_ ?_<;>(intro hb hbp;try(cases hb;done)))|(apply az fun K hK=>?_)|fail)
  all_goals (first|(refine⟨aE,_,aO,?_⟩;(try simp only[aD]);rw[xQ,I,z];(try simp only[ul]at *);simp only[*,nh,];done)|skip)
  refine⟨ac,aW,aW,b8,LU,?_⟩;rw[I,z];(try simp only[kY]at *);simp only[*,gW,]
 all_goals
  have V:i=x.ak.length:=ac;rw[V,kL]at I;have O:fO x.ak=true:=I;clear I;all_goals refine qi ?_
  rw[xQ,O,ph];(try simp only[fA]at *);simp only[ *,lA,l5,oY,sN,pP,gW,fV,dG,fK,Int.reduceEq])
end
section
def tyR3e.tyF:=ad @dm (ad @cG (ad @eG (ad @i7 (ad @jh (ad @iC (@kg))))))
open tyR3e
noncomputable def TA:=qd (M:=202) f186.eq_1
def tL(x:St):Bool:=decide (x.name=[])&&decide (x.to=[])&&decide (x.n=0)&&zeroE x.bz&&decide ((x.args.length:Int)=0)
def tM(x:St):Bool:=decide ((x.bm.length:Int)=0)&&decide ((x.bO.length:Int)=0)
def pi(x:St):Bool:=
 if x.az=1 then tM x&&io x.name&&decide (x.to=[])&&decide (x.n=0)&&zeroE x.bz&&decide ((x.args.length:Int)=0)&&fB x.value
 else if x.az=2 then tM x&&io x.name&&decide (x.to=[])&&decide (x.n=0)&&fB x.bz&&decide ((x.args.length:Int)=0)&&fB x.value
 else if x.az=3 then tL x&&fB x.value
 else if x.az=4 then tL x&&fB x.value&&decide ((x.bO.length:Int)=0)
 else if x.az=5 then tM x&&tL x&&fB x.value
 else if x.az=6 then tM x&&io x.name&&io x.to&&decide (x.n=0)&&zeroE x.bz&&zeroE x.value
 else if x.az=7 then tM x&&decide (x.name=[])&&decide (x.to=[])&&decide (0<=x.n)&&decide (x.n<=1000000)&&zeroE x.bz&&zeroE x.value&&decide ((x.args.length:Int)=0)
 else false
def kh(x:St):Bool:=fO x.args&&pi x
def zr(x:St):qB:=[.agg x.cells]
def TB(x y:St)(h:zr x=zr y):x=y:=by simp only[zr,eX,AV.agg.injEq,aV]at h;exact St.inj h
def zhy(x:St):bA prog ρ 208 [.agg x.cells] (.bool (tL x)):=fF fit (pls:=pls) (l:=[DG]) ⟨Tz ρ,trivial⟩ (.cons (.agg x.pure) .nil) (.bool _) (by
 have hw:zd0 (aA pls [DG]) 208:=gY (fun _=>rfl) rfl;have C:∀y:Ex,∀H,aR prog (aA pls [DG]) 207 [.agg y.cells] H fun v H'=>v=.bool (zeroE y)/\H'=H:=fun y H=>cQ (enc:=me) (out:=fun x=>.bool (zeroE x)) uM (x:=y) rfl trivial;refine qe hw func208 Tw ?_;dsimp only[Tw,qd,a1,Nat.reduceAdd];repeat' (first
  |(apply ay ?_;clear hK K)|apply a9 ?_|(apply fq ?_;first|refine Rx.k (C _ _) ?_)|(apply gL ?_ ?_<;>(intro hg hgp;try(cases hg;done)))|(apply az fun K hK=>?_)|fail)
 all_goals
  all_goals refine qi ?_
  rw[tL];(try simp only[fA]at *);simp only[ *,pP,gW,fV,])
noncomputable def TC:En:=⟨208,false,co (fun _=>True) zr fun x=>.bool (tL x)⟩
def zhz:de prog ρ TC:=dA fun x _=>zhy ρ x
noncomputable def MG:En:=⟨147,false,co (fun x=>x.sz<2^60) me fun x=>.bool (fB x)⟩
def TD:de prog ρ MG:=dA fun x I=>zhx ρ x I
noncomputable def AU:qH:=[HO,DG,TC,MG]
def zhA:gX prog ρ AU:=⟨ME ρ,Tz ρ,zhz ρ,TD ρ,trivial⟩
def zhB(x:St)(hx:x.sz<2^60):bA prog ρ 186 [.agg x.cells] (.bool (kh x)):=fF fit (pls:=pls) (zhA ρ) (.cons (.agg x.pure) .nil) (.bool _) (by
 have hw:zd0 (aA pls AU) 186:=gY (fun _=>rfl) rfl;have kz:∀y:Ex,∀H,aR prog (aA pls AU) 207 [.agg y.cells] H fun v H'=>v=.bool (zeroE y)/\H'=H:=fun y H=>cQ (enc:=me) (out:=fun x=>.bool (zeroE x)) uM (x:=y) rfl trivial;have ko:∀y:St,∀H,aR prog (aA pls AU) 208 [.agg y.cells] H fun v H'=>v=.bool (tL y)/\H'=H:=fun y H=>cQ (enc:=zr) (out:=fun x=>.bool (tL x)) TB (x:=y) rfl trivial;have kv:∀s:qD,s.length<2^60->∀H,aR prog (aA pls AU) 40 [.ay s] H fun v H'=>v=.bool (io s)/\H'=H:=fun s j H=>cQ (enc:=tH) (out:=fun x=>.bool (io x)) Dr (x:=s) rfl j;have m:∀y:Ex,y.sz<2^60->∀H,aR prog (aA pls AU) 147 [.agg y.cells] H fun v H'=>v=.bool (fB y)/\H'=H:=fun y j H=>cQ (enc:=me) (out:=fun x=>.bool (fB x)) uM (x:=y) rfl j;have hsz:=x.a9;have hlen:=xe x.args;refine qe hw func186 TA ?_;dsimp only[TA,qd,a1,Nat.reduceAdd];refine mA ?_;refine cP [1] [0] 3 x.args.length (fun i E H=>fO x.args=fO (x.args.drop i)) eE aB ?_;rintro i E O hi Z J L hsI I;(try simp only[bz,a7,aV,aK,bb,Nat.reduceBEq, *]at Z);(try simp only[bz,a7,aV,aK,bb, *]at J);(try simp only[aS,cL,bR]at L);have hB0:(0 == O.next)=false:=aZ ac;have hC0:(O.next == 0)=false:=aZ ac;repeat' (first
  |(apply ay ?_;clear hK K)|apply a9 ?_|(apply fq ?_;first|refine Rx.k (kv _ ac _) ?_|refine Rx.k (kz _ _) ?_|refine Rx.k (ko _ _) ?_|refine Rx.k (m _ ac _) ?_)|(apply gL ?_ ?_<;>(intro hg hgp;try(cases hg;done)))|(apply bU ?_ ?_<;>(intro hb hbp;try(cases hb;done)))|(apply az fun K hK=>?_)|fail)
 .have C:i<x.args.length:=by simpa using hb
  have hgx:x.args[i]?=some x.args[i]:=aX C;have hm:=ux (dE C);have z:fO (x.args.drop i)=(fB x.args[i]&&fO (x.args.drop (i+1))):=oW;repeat' (first
   |(apply ay ?_;clear hK K)|apply a9 ?_|(apply fq ?_;first|refine Rx.k (m _ ac _) ?_)|(apply bU ?_ ?_<;>(intro hb hbp;try(cases hb;done)))|(apply az fun K hK=>?_)|fail)
  all_goals (first|(refine⟨aE,_,aO,?_⟩;(try simp only[aD]);rw[kh,I,z];(try simp only[ul]at *);simp only[*,nh,];done)|skip)
  refine⟨ac,aW,aW,b8,Mv,?_⟩;rw[I,z];(try simp only[kY]at *);simp only[*,gW,]
 all_goals
  have Y:i=x.args.length:=ac;rw[Y,kL]at I;have V:fO x.args=true:=I;clear I;all_goals refine qi ?_
  rw[kh,V,pi,tM];(try simp only[fA]at *);simp only[ *,pP,gW,fV,dG,fK,Int.reduceEq])
end
section
def tyR3f.tyF:=ad @dm (ad @cG (ad @eG (ad @ij (ad @l8 (ad @jU (ad @jx (ad @i7 (ad @jh (ad @iC (ad @tG (ad @nZ (@kg))))))))))))
open tyR3f
noncomputable def TE:=qd (M:=34) f146.eq_1
noncomputable def TF:=qd (M:=66) f94.eq_1
mutual
def pV:St->Bool
 | .mk k L Z n a v I O V=>kh (.mk k L Z n a v I O V)&&gN O&&gN V
def gN:qJ->Bool
 |[]=>true
 |x::l=>pV x&&gN l
end
theorem tN(x:St):pV x=(kh x&&gN x.bm&&gN x.bO):=by cases x;rw[pV];rfl
noncomputable def HP:En:=⟨186,false,co (fun x=>x.sz<2^60) zr fun x=>.bool (kh x)⟩
def zhC:de prog ρ HP:=dA fun x I=>zhB ρ x I
def zhD:∀x:qJ,bF x<2^60->bA prog ρ 146 (o7 x) (.bool (gN x)):=
 zd fit (pls:=pls) (l:=[HP]) ⟨zhC ρ,trivial⟩ (fun x=>bF x) (ok:=fun x=>bF x<2^60) (enc:=o7) (out:=fun x=>.bool (gN x)) (fun x _=>.cons (Dd _) .nil) (fun x _=>.bool _) (fun x hx=>by
 have hw:=zh (sz:=fun x:qJ=>bF x) (ok:=fun x=>bF x<2^60) (out:=fun x=>.bool (gN x)) AK (f:=146) (l:=[HP]) x;generalize Y:(⟨146,false,co (fun y=>bF y<2^60/\bF y<bF x) o7 fun x=>.bool (gN x)⟩:En)::[HP]=l at hw⊢;have kr:∀(y:qJ),bF y<bF x->∀H,aR prog (aA pls l) 146 [.aE (y.map St.cells)] H fun v H'=>v=.bool (gN y)/\H'=H:=fun y m H=>by
  subst Y;exact cQ (enc:=o7) (out:=fun x=>.bool (gN x)) AK (x:=y) rfl ⟨ac,m⟩
 have kd:∀y:St,y.sz<2^60->∀H,aR prog (aA pls l) 186 [.agg y.cells] H fun v H'=>v=.bool (kh y)/\H'=H:=fun y j H=>by
  subst Y;exact cQ (enc:=zr) (out:=fun x=>.bool (kh x)) TB (x:=y) rfl j
 have V:=yL x;change aR _ _ _ [.aE (x.map St.cells)] _ _;refine a4 (M:=34) (rs:=[.tmp 2]) hw.call hw.bU hw.cm func146 rfl rfl TE.2.1 rfl ?_;dsimp only[TE,qd,a1,Nat.reduceAdd];refine mA ?_;refine cP [0] [] 3 x.length (fun i E H=>gN x=gN (x.drop i)) eE aB ?_;rintro i E H2 hi I J L O Z;(try simp only[bz,a7,aV,aK,bb,Nat.reduceBEq, *]at I);(try simp only[a7, *]at J);(try simp only[cL,]at L);repeat' (first
  |(apply ay ?_;clear hK K)|apply a9 ?_|(apply bU ?_ ?_<;>(intro hb hbp;try(cases hb;done)))|(apply az fun K hK=>?_)|fail)
 .have C:i<x.length:=by simpa using hb
  have hgx:x[i]?=some x[i]:=aX C;have hsm:=tz (dE C);have hsz:=x[i].a9;have z:gN (x.drop i)=(pV x[i]&&gN (x.drop (i+1))):=oW;rw[tN]at z;repeat' (first
   |(apply ay ?_;clear hK K)|apply a9 ?_|(apply fq ?_;first|refine Rx.k (kd _ ac _) ?_|refine Rx.k (kr _ ac _) ?_)|(apply gL ?_ ?_<;>(intro hg hgp;try(cases hg;done)))|(apply bU ?_ ?_<;>(intro hb hbp;try(cases hb;done)))|(apply az fun K hK=>?_)|fail)
  all_goals (first|(refine⟨aE,_,aO,?_⟩;(try simp only[aD]);rw[Z,z];(try simp only[fA]at *);simp only[ *,pP,fV,];done)|skip)
  refine⟨ac,aW,aW,b8,AH,?_⟩;rw[Z,z];(try simp only[kY]at *);simp only[*,gW,fV,]
 .all_goals refine qi ?_
  rw[Z,show i=x.length by simp at hb;omega];simp[gN])
noncomputable def TG:En:=⟨146,false,co (fun x=>bF x<2^60) o7 fun x=>.bool (gN x)⟩
def zhE:de prog ρ TG:=dA fun x I=>zhD ρ x I
noncomputable def AW:qH:=[HO,MG,TG]
def zhF:gX prog ρ AW:=⟨ME ρ,TD ρ,zhE ρ,trivial⟩
theorem TH:∀{l:qT}{a:Ar},a∈l->a.name.length<jt l
 |[],_,h=>by simp at h
 |e::es,x,h=>by
  rcases eJ.1 h with rfl|h
  .simp only[jt];omega
  .have:=TH h;simp only[jt];omega
def fnNames(f:Fu):qC:=[f.name]++f.params++f.aK
def rY(f:Fu):Bool:=(fnNames f).all io&&gN f.body&&fB f.value
def mM(p:Pr):Bool:=p.ab.all (fun a=>io a.name)&&p.funcs.all rY
def HQ(H:Hp)(s:qD):eW prog H 66 1 [(0,.ay s)]=some (.sl H.next 0 1 1,H.alloc (.cells [.ay s] 0 true)):=ax
abbrev qo:HB:=.cells [] 0 true
def TI(H:Hp):eW prog H 66 0 []=some (.sl H.next 0 0 1,H.alloc qo):=ax
theorem zhG(p:Pr)(hz:p.sz<2^36):bA prog ρ 94 [.agg p.cells] (.bool (mM p)):=fF fit (pls:=pls) (zhF ρ) (.cons (.agg p.pure) .nil) (.bool _) (by
 have hw:zd0 (aA pls AW) 94:=gY (fun _=>rfl) rfl;have m:(aA pls AW).keep 94=false:=rfl;have kv:∀s:qD,s.length<2^60->∀H,aR prog (aA pls AW) 40 [.ay s] H fun v H'=>v=.bool (io s)/\H'=H:=fun s h1 H=>cQ (enc:=tH) (out:=fun x=>.bool (io x)) Dr (x:=s) rfl h1;have kw:∀y:Ex,y.sz<2^60->∀H,aR prog (aA pls AW) 147 [.agg y.cells] H fun v H'=>v=.bool (fB y)/\H'=H:=fun y h1 H=>cQ (enc:=me) (out:=fun x=>.bool (fB x)) uM (x:=y) rfl h1;have ks:∀y:qJ,bF y<2^60->∀H,aR prog (aA pls AW) 146 [.aE (y.map St.cells)] H fun v H'=>v=.bool (gN y)/\H'=H:=fun y h1 H=>cQ (enc:=o7) (out:=fun x=>.bool (gN x)) AK (x:=y) rfl h1;have hpz:p.sz=1+jt p.ab+iA p.funcs:=rfl;have hla:=vK p.ab;have hlf:=vJ p.funcs;refine qe hw func94 TF ?_;dsimp only[TF,qd,a1,Nat.reduceAdd];refine dX ?_;refine cP [1] [0] 3 p.ab.length (fun i E H=>p.ab.all (fun a=>io a.name)=(p.ab.drop i).all (fun a=>io a.name)) eE aB ?_;rintro i E Z hi I J Y hsI hJ;(try simp only[bz,a7,aV,aK,bb,Nat.reduceBEq, *]at I);(try simp only[bz,a7,aV,aK,bb, *]at J);(try simp only[aS,cL,bR]at Y);have hB0:(0 == Z.next)=false:=aZ ac;have hC0:(Z.next == 0)=false:=aZ ac;repeat' (first
  |(apply ay ?_;clear hK K)|apply a9 ?_|(apply bU ?_ ?_<;>(intro hb hbp;try(cases hb;done)))|(apply az fun K hK=>?_)|fail)
 .have C:i<p.ab.length:=by simpa using hb
  have hgx:p.ab[i]?=some p.ab[i]:=aX C;have z:(p.ab.drop i).all (fun a=>io a.name)=(io p.ab[i].name&&(p.ab.drop (i+1)).all (fun a=>io a.name)):=SU;have hsm:p.ab[i].name.length<jt p.ab:=TH (dE C);repeat' (first
   |(apply ay ?_;clear hK K)|apply a9 ?_|(apply fq ?_;first|refine Rx.k (kv _ ac _) ?_)|(apply bU ?_ ?_<;>(intro hb hbp;try(cases hb;done)))|(apply az fun K hK=>?_)|fail)
  all_goals (first|(refine⟨aE,_,aO,?_⟩;(try simp only[aD]);rw[mM,hJ,z];(try simp only[ul]at *);simp only[*,nh,];done)|skip)
  refine⟨ac,aW,aW,b8,HG,?_⟩;rw[hJ,z];(try simp only[kY]at *);simp only[*,gW,]
 .have hie:i=p.ab.length:=by simp at hb;omega
  rw[hie,kL,pO]at hJ;clear hb hie hsI hi;refine cP [1] [0] 4 p.funcs.length (fun i E H=>p.funcs.all rY=(p.funcs.drop i).all rY) eE aB ?_;rintro i E Z hi I J Y hsI V;(try simp only[bz,a7,aV,aK,Nat.reduceBEq, *]at I);(try simp only[bz,a7,aV, *]at J);(try simp only[aS,bK,cL,bR,Nat.reduceAdd]at Y);have hB0:(0 == Z.next)=false:=aZ ac;have hC0:(Z.next == 0)=false:=aZ ac;repeat' (first
   |(apply ay ?_;clear hK K)|apply a9 ?_|(apply bU ?_ ?_<;>(intro hb hbp;try(cases hb;done)))|(apply az fun K hK=>?_)|fail)
  .have C:i<p.funcs.length:=by simpa using hb
   have hgx:p.funcs[i]?=some p.funcs[i]:=aX C;have z:(p.funcs.drop i).all rY=(rY p.funcs[i]&&(p.funcs.drop (i+1)).all rY):=SU;rw[rY]at z;have hsm:=uy (dE C);have hsz:p.funcs[i].sz=1+p.funcs[i].name.length+gl p.funcs[i].params+gl p.funcs[i].aK+bF p.funcs[i].body+p.funcs[i].value.sz:=rfl;have gh0:=@HQ;repeat' (first
    |(apply ay ?_;clear hK K)|apply a9 ?_|(apply bV 10 [(1,5),(2,5),(4,5),(7,5),(7,8)] fun K hK=>?_)|(apply bB ?_;try intro _)|fail)
   generalize L:Hp.alloc _ (HB.cells [AV.ay p.funcs[i].name] 0 true)=H4;have n4:H4.next=Z.next+2:=by rw[<-L];rfl
   have g4:H4.get Z.next=some (.cells p.funcs[i].cells 0 true):=by rw[<-L];clear L;exact RM
   have g40:H4.get 0=some (.cells p.cells 0 true):=by
    rw[<-L,aL,ah mL,aQ,ah ac,aL,ah ac];exact J
   have g41:H4.get (Z.next+1)=some (.cells [.ay p.funcs[i].name] 0 true):=by rw[<-L];clear L;exact RM
   have s4:dW H4 (.sl (Z.next+1) 0 1 1) [p.funcs[i].name] (Z.next+1):=⟨Z.next+1,0,rfl,g41,aB,aG _,ac⟩;have hpl:=oL p.funcs[i].params;have hll:=oL p.funcs[i].aK;obtain⟨v5,H5,cI,s5,n5,f5,_⟩:=AJ p.funcs[i].params s4 ac cZ;have g5:H5.get Z.next=some (.cells p.funcs[i].cells 0 true):=by rw[f5 _ (cn _)];exact g4
   have g50:H5.get 0=some (.cells p.cells 0 true):=by rw[f5 _ ac];exact g40
   refine mG cS cS (by rw[m];exact cI) ?_;refine yh ?_;obtain⟨v6,H6,eO,s6,n6,f6,_⟩:=AJ p.funcs[i].aK s5 ac cZ;have g6:H6.get Z.next=some (.cells p.funcs[i].cells 0 true):=by rw[f6 _ (cn _)];exact g5
   have g60:H6.get 0=some (.cells p.cells 0 true):=by rw[f6 _ ac];exact g50
   refine mG cS cS (by rw[m];exact eO) ?_;refine BR ?_ ?_
   .exact bM
   .have s6':dW H6 v6 (fnNames p.funcs[i]) (Z.next+1):=s6;have hfl:(fnNames p.funcs[i]).length<2^61:=by simp[fnNames];omega
    have hfm:∀s∈fnNames p.funcs[i],s.length<2^60:=fun s hs=>by
     rcases uk.1 hs with hs|hs
     .rcases uk.1 hs with hs|hs
      .simp at hs;subst hs;omega
      .have:=KS hs;omega
     .have:=KS hs;omega
    clear s6 eO f6 cI f5 s5 s4;generalize fnNames p.funcs[i]=ns at *;have hln:=fun H'=>s6'.len (H':=H');refine cP [1,4,5,6] [0,Z.next] 7 ns.length (fun j E H=>ns.all io=(ns.drop j).all io/\dW H v6 ns (Z.next+1)) eE ⟨aB,s6'⟩ ?_;rintro j E3 H3 hj I J Y hsI ⟨O,s7⟩;(try simp only[bz,a7,aV,aK,bb,Nat.reduceBEq, *]at I);(try simp only[bz,a7,aV, *]at J);(try simp only[aS,bK,cL,bR,Nat.reduceAdd]at Y);have hB0:(0 == H3.next)=false:=aZ ac;have hC0:(H3.next == 0)=false:=aZ ac;have hB1:(Z.next == H3.next)=false:=aZ ac;have hC1:(H3.next == Z.next)=false:=aZ ac;repeat' (first
     |(apply ay ?_;clear hK K)|apply a9 ?_|(apply fq ?_;first|refine Rx.k (kw _ ac _) ?_|refine Rx.k (ks _ ac _) ?_)|(apply gL ?_ ?_<;>(intro hg hgp;try(cases hg;done)))|(apply bU ?_ ?_<;>(intro hb hbp;try(cases hb;done)))|(apply az fun K hK=>?_)|fail)
    .have hlt2:j<ns.length:=by simpa using hb
     obtain⟨q,ia,ld⟩:=s7.at hlt2;have hdr2:(ns.drop j).all io=(io ns[j]&&(ns.drop (j+1)).all io):=by rw[i4 hlt2,oX]
     have hq:=hfm _ (dE hlt2);repeat' (first
      |(apply ay ?_;clear hK K)|apply a9 ?_|(apply fq ?_;first|refine Rx.k (kv _ hq _) ?_)|(apply bU ?_ ?_<;>(intro hb hbp;try(cases hb;done)))|(apply az fun K hK=>?_)|fail)
     all_goals (first|(refine⟨aE,_,aO,?_⟩;(try simp only[aD]);rw[mM,hJ,V,z,O,hdr2];(try simp only[ul]at *);simp only[ *,pP,];done)|skip)
     refine⟨ac,aW,aW,b8,(by simp only[aK,Nat.reduceBEq, *];exact il (n:=ns.length) ac ac),?_⟩;exact⟨by rw[O,hdr2];(try simp only[kY]at *);simp only[*,gW,],s7⟩
    all_goals
     have hje:j=ns.length:=ac;rw[hje,kL,pO]at O
    all_goals (first|(refine⟨aE,_,aO,?_⟩;(try simp only[aD]);rw[mM,hJ,V,z,O];(try simp only[fA]at *);simp only[ *,pP,fV,];done)|skip)
    refine⟨ac,aW,aW,b8,zf,?_⟩;rw[V,z,O];(try simp only[kY]at *);simp only[*,gW,fV,]
  .all_goals refine qi ?_
   have hie:i=p.funcs.length:=HF;rw[hie,kL,pO]at V;rw[mM,hJ,V];(try simp only[fA]at *);simp only[*,fV,])
end
section
def tyR3g.tyF:=ad @cG (ad @eG (ad @ij (ad @l8 (ad @jU (ad @jx (ad @i7 (ad @iC (ad @tG (ad @nZ (ad @HQ (@TI)))))))))))
open tyR3g
noncomputable def TJ:=qd (M:=85) f95.eq_1
def gE:qC->qC->Bool
 |_,[]=>false
 |seen,s::l=>bL seen s||gE (seen++[s]) l
def pW(Y:qC):qC->qV->Bool
 |_,[]=>false
 |seen,f::fs=>bL seen f.name||gE Y (f.params++f.aK)||pW Y (seen++[f.name]) fs
def cJ(p:Pr):qC:=p.ab.map (·.name)
def nK(p:Pr):Bool:=gE [] (cJ p)||pW (cJ p) [] p.funcs
def wj{J:Type}(l seen:List J)(i:Nat):Prop:=l=seen++l.drop i
def TK{J:Type}{l seen:List J}(h:i<l.length)(e:wj l seen i):wj l (seen++[l[i]]) (i+1):=by
 unfold wj at *;rw[kI,List.singleton_append,<-i4 h];exact e
theorem zhH(p:Pr)(hz:p.sz<2^36):bA prog ρ 95 [.agg p.cells] (.bool (nK p)):=fF fit (pls:=pls) (l:=[uK]) ⟨L2 ρ,trivial⟩ (.cons (.agg p.pure) .nil) (.bool _) (by
 have hw:zd0 (aA pls [uK]) 95:=gY (fun _=>rfl) rfl;have Y:(aA pls [uK]).keep 95=false:=rfl;have hpz:p.sz=1+jt p.ab+iA p.funcs:=rfl;have hla:=vK p.ab;have hlf:=vJ p.funcs;have hal:(cJ p).length=p.ab.length:=by simp[cJ]
 refine qe hw func95 TJ ?_;dsimp only[TJ,qd,a1,Nat.reduceAdd];refine dX ?_;refine cP [1] [0] 5 p.ab.length (fun i E H=>E.at 4=.ao/\∃v seen,E.at 3=v/\eU H v seen 1/\gE [] (cJ p)=gE seen ((cJ p).drop i)/\wj (cJ p) seen i) eE ⟨eE,.ao,[],eE,.inl ⟨rfl,rfl⟩,aB,by simp[wj]⟩ ?_;rintro i E H2 hi hcE m hnH hsI ⟨fm,v,seen,ee,s2,hJ,hsn⟩;(try simp only[bz,a7,aV,aK,bb,Nat.reduceBEq, *]at hcE);(try simp only[bz,a7,aV,aK,bb, *]at m);(try simp only[aS,cL,bR]at hnH);have hB0:(0 == H2.next)=false:=aZ ac;have hC0:(H2.next == 0)=false:=aZ ac;have hsl:seen.length<=p.ab.length:=by have:cJ p=seen++(cJ p).drop i:=hsn;have:=pC List.length this;rw[fx]at this;omega
 repeat' (first
  |(apply ay ?_;clear hK K)|apply a9 ?_|(apply bU ?_ ?_<;>(intro hb hbp;try(cases hb;done)))|(apply az fun K hK=>?_)|fail)
 .have hlt:i<p.ab.length:=by simpa using hb
  have hgx:p.ab[i]?=some p.ab[i]:=aX hlt;have hgn:(cJ p)[i]' ac=p.ab[i].name:=by simp[cJ]
  have hdr:gE seen ((cJ p).drop i)=(bL seen p.ab[i].name||gE (seen++[p.ab[i].name]) ((cJ p).drop (i+1))):=by rw[i4 ac,hgn];rfl
  have hsn2:=TK ac hsn;rw[hgn]at hsn2;refine dX ?_;refine qj ?_;refine a8 ?_ (L3 (fun _=>rfl) rfl s2 ac p.ab[i].name);rintro w H3 ⟨rfl,s3,n3,f3,o3⟩;have m3:H2.next<=H3.next:=ac
  clear n3;dsimp only[a0];have g30:H3.get 0=some (.cells p.cells 0 true):=by rw[f3 0 ac];exact m
  have e1:(0 == H3.next)=false:=cZ;have s4:eU (H3.alloc (.cells [.ay p.ab[i].name] 0 true)) v seen 1:=s3.keep (dg _) fun k z=>by rw[aL,ah (by have:=s3.lt z;omega)]
  repeat' (first
   |(apply ay ?_;clear hK K)|apply a9 ?_|(apply bU ?_ ?_<;>(intro hb hbp;try(cases hb;done)))|(apply az fun K hK=>?_)|fail)
  .all_goals refine qi ?_
   rw[nK,hJ,hdr];(try simp only[fA]at *);simp only[*,nX,]
  .obtain⟨v5,H5,cI,s5,n5,f5,o5⟩:=Du (r:=H3.next) (imm:=0) p.ab[i].name s4 iF fw ac;have g50:H5.get 0=some (.cells p.cells 0 true):=by rw[f5 0 ac,aL,ah ac];exact g30
   simp only[aS]at n5;have m5:H3.next+1<=H5.next:=ac
   clear n5;refine mG cS cS (by rw[Y];exact cI) ?_;refine dX ?_;refine⟨ac,aW,aW,b8,HG,?_⟩;exact⟨eE,v5,seen++[p.ab[i].name],eE,.inr s5,by rw[hJ,hdr];(try simp only[fA]at *);simp only[*,l5,],hsn2⟩
 .have hie:i=(cJ p).length:=by simp at hb;omega
  unfold wj at hsn;rw[hie,kL]at hJ hsn;rw[bq]at hsn;have hJ':gE [] (cJ p)=false:=hJ;rw[<-hsn]at s2;clear hJ hie hsI hi hsl hsn;clear seen;have c3:∀k,a3 v k->k<H2.next:=fun k z=>(s2.lt z).2
  refine cP [1,3] [0] 6 p.funcs.length (fun i E H=>∃u seen,E.at 4=u/\eU H u seen H2.next/\eU H v (cJ p) 1/\pW (cJ p) [] p.funcs=pW (cJ p) seen (p.funcs.drop i)/\seen.length=i) eE ⟨.ao,[],eE,.inl ⟨rfl,rfl⟩,s2,aB,rfl⟩ ?_;rintro i E H4 hi hcE m hnH hsI ⟨u,seen,k4',s4,t4,hJ2,hsl⟩;(try simp only[bz,a7,aV,aK,Nat.reduceBEq, *]at hcE);(try simp only[bz,a7,aV, *]at m);(try simp only[aS,bK,cL,bR,Nat.reduceAdd]at hnH);have hB0:(0 == H4.next)=false:=aZ ac;have hC0:(H4.next == 0)=false:=aZ ac;repeat' (first
   |(apply ay ?_;clear hK K)|apply a9 ?_|(apply bU ?_ ?_<;>(intro hb hbp;try(cases hb;done)))|(apply az fun K hK=>?_)|fail)
  .have hlt:i<p.funcs.length:=by simpa using hb
   have hgx:p.funcs[i]?=some p.funcs[i]:=aX hlt;have hsm:=uy (dE hlt);have hsz:p.funcs[i].sz=1+p.funcs[i].name.length+gl p.funcs[i].params+gl p.funcs[i].aK+bF p.funcs[i].body+p.funcs[i].value.sz:=rfl;have hdr:pW (cJ p) seen (p.funcs.drop i)=(bL seen p.funcs[i].name||gE (cJ p) (p.funcs[i].params++p.funcs[i].aK)||pW (cJ p) (seen++[p.funcs[i].name]) (p.funcs.drop (i+1))):=by rw[i4 hlt];rfl
   refine JG fun K hK=>?_;generalize hHb:Hp.set (Hp.alloc H4 _) H4.next _=Hb
   have nb:H4.next<Hb.next:=by rw[<-hHb];exact cn _
   have oldb:∀k,k<H4.next->Hb.get k=H4.get k:=fun k z=>SZ
   have gb:Hb.get H4.next=some (.cells p.funcs[i].cells 0 true):=DA
   have gb0:Hb.get 0=some (.cells p.cells 0 true):=by rw[oldb 0 ac];exact m
   have s4b:eU Hb u seen H2.next:=s4.keep ac fun k z=>oldb k (s4.lt z).2
   have t4b:eU Hb v (cJ p) 1:=t4.keep ac fun k z=>oldb k (t4.lt z).2;have nou:¬a3 u H4.next:=fun h=>by have:=(s4.lt h).2;omega
   clear hHb;refine qj ?_;refine a8 ?_ (L3 (fun _=>rfl) rfl s4b ac p.funcs[i].name);rintro w H5 ⟨rfl,s5,n5,f5,o5⟩;have m5:Hb.next<=H5.next:=ac
   clear n5;dsimp only[a0];have g5:H5.get H4.next=some (.cells p.funcs[i].cells 0 true):=by rw[o5 _ nou];exact gb
   have g50:H5.get 0=some (.cells p.cells 0 true):=by rw[f5 0 ac];exact gb0
   have t5:eU H5 v (cJ p) 1:=t4b.keep ac fun k z=>f5 k (c3 k z);have e5:(H4.next == H5.next)=false:=cZ;repeat' (first
    |(apply ay ?_;clear hK K)|apply a9 ?_|(apply bU ?_ ?_<;>(intro hb hbp;try(cases hb;done)))|(apply az fun K hK=>?_)|fail)
   .all_goals refine qi ?_
    rw[nK,hJ',hJ2,hdr];(try simp only[fA]at *);simp only[*,nX,sN,]
   have old5:∀k,k<H5.next->(H5.alloc (.cells [.ay p.funcs[i].name] 0 true)).get k=H5.get k:=fun k z=>dT
   have s5b:eU (H5.alloc (.cells [.ay p.funcs[i].name] 0 true)) u seen H2.next:=s5.keep (dg _) fun k z=>old5 k (s5.lt z).2
   obtain⟨u6,H6,eO,s6,n6,f6,o6⟩:=Du (r:=H5.next) (imm:=0) p.funcs[i].name s5b iF fw ac;simp only[aS]at n6;have m6:H5.next+2<=H6.next:=ac
   clear n6;have g6:H6.get H4.next=some (.cells p.funcs[i].cells 0 true):=by rw[o6.1 _ iF nou,old5 _ ac];exact g5
   have g60:H6.get 0=some (.cells p.cells 0 true):=by rw[f6 0 ac,old5 _ ac];exact g50
   have t6:eU H6 v (cJ p) 1:=t5.keep ac fun k z=>by rw[f6 k (c3 k z),old5 _ (t5.lt z).2]
   refine mG cS cS (by rw[Y];exact eO) ?_;refine JG fun K hK=>?_;have J:∀k,k<H6.next->(H6.alloc qo).get k=H6.get k:=fun k z=>dT
   have s7:dW (H6.alloc qo) (.sl H6.next 0 0 1) [] H6.next:=⟨H6.next,0,rfl,iE,aB,aG _,cn _⟩
   have t7:eU (H6.alloc qo) v (cJ p) 1:=t6.keep (dg _) fun k z=>J k (t6.lt z).2;obtain⟨w8,O,sZ,s8,n8,f8,o8⟩:=zgd s7 (dg _) t7 cZ;simp only[aS]at n8;have g8:O.get H4.next=some (.cells p.funcs[i].cells 0 true):=by rw[f8 _ ac,J _ ac];exact g6
   have g80:O.get 0=some (.cells p.cells 0 true):=by rw[f8 0 ac,J _ ac];exact g60
   have t8:eU O v (cJ p) 1:=t6.keep ac fun k z=>by rw[f8 k (by have:=(t6.lt z).2;omega),J _ (t6.lt z).2]
   have u8:dW O u6 (seen++[p.funcs[i].name]) H2.next:=s6.keep ac fun k z=>by rw[f8 k (s6.lt z).2,J _ (s6.lt z).2]
   refine mG cS cS (by rw[Y];exact sZ) ?_;have e8:(H4.next == O.next)=false:=cZ;refine JG fun K hK=>?_;have old8:∀k,k<O.next->(O.alloc qo).get k=O.get k:=fun k z=>dT
   have s9:dW (O.alloc qo) (.sl O.next 0 0 1) [] O.next:=⟨O.next,0,rfl,iE,aB,aG _,cn _⟩
   have g9a:(O.alloc qo).get H4.next=some (.cells p.funcs[i].cells 0 true):=by rw[old8 _ ac];exact g8
   have g9b:(O.alloc qo).get O.next=some qo:=fw
   have hpl:=oL p.funcs[i].params;have hll:=oL p.funcs[i].aK;obtain⟨w9,H9,ro,s10,n9,f9,_⟩:=AJ p.funcs[i].params s9 (dg _) cZ;simp only[aS]at n9;have g9:H9.get H4.next=some (.cells p.funcs[i].cells 0 true):=by rw[f9 _ ac];exact g9a
   refine mG cS cS (by rw[Y];exact ro) ?_;refine yh ?_;obtain⟨w11,H11,a11,s11,n11,f11,_⟩:=AJ p.funcs[i].aK s10 ac cZ;have g11:H11.get H4.next=some (.cells p.funcs[i].cells 0 true):=by rw[f11 _ ac];exact g9
   refine mG cS cS (by rw[Y];exact a11) ?_;refine BR ?_ ?_
   .exact bM
   .have I:∀k,k<O.next->H11.get k=O.get k:=fun k z=>by rw[f11 k z,f9 k z,old8 k z]
    have g110:H11.get 0=some (.cells p.cells 0 true):=by rw[I 0 ac];exact g80
    have u11:dW H11 u6 (seen++[p.funcs[i].name]) H2.next:=u8.keep ac fun k z=>I k (u8.lt z).2
    have v11:eU H11 v (cJ p) 1:=t8.keep ac fun k z=>I k (t8.lt z).2;have q11:dW H11 w8 (cJ p) H6.next:=s8.keep ac fun k z=>I k (s8.lt z).2
    have c8:∀k,a3 w8 k->k<O.next:=fun k z=>(s8.lt z).2
    have cu:∀k,a3 u6 k->k<H6.next:=fun k z=>(s6.lt z).2
    have s11':dW H11 w11 (p.funcs[i].params++p.funcs[i].aK) O.next:=s11
    have hfl:(p.funcs[i].params++p.funcs[i].aK).length<2^38:=cZ;have m11:O.next+1<=H11.next:=ac
    have m8:H6.next+1<=O.next:=ac
    clear s11 a11 f11 ro f9 s10 s9 sZ f8 s8 eO f6 s6 n9 n11 o8 o6 s7 t7 old8 J old5 s5b t8 u8 t6 t5 g9 g9a g9b g8 g6 g5 e8 e5;generalize p.funcs[i].params++p.funcs[i].aK=C at *;have hln:=fun H'=>s11'.len (H':=H');refine cP [1,3,4,6,7,9] [0] 10 C.length (fun j E H=>∃w Z,E.at 8=w/\dW H w Z H6.next/\(∀k,a3 w k->¬a3 w11 k)/\dW H w11 C O.next/\eU H v (cJ p) 1/\dW H u6 (seen++[p.funcs[i].name]) H2.next/\gE (cJ p) C=gE Z (C.drop j)/\Z.length=(cJ p).length+j) eE ⟨w8,cJ p,eE,q11,fun k h1 h2=>by have:=c8 k h1;have:=(s11'.lt h2).1;omega,s11',v11,u11,aB,rfl⟩ ?_;rintro j E3 H12 hj hcE m hnH hsI ⟨w,Z,k8,q12,hno,r12,v12,u12,hJ3,hsl2⟩;(try simp only[bz,a7,aV,aK,bb,Nat.reduceBEq, *]at hcE);(try simp only[bz,a7,aV, *]at m);(try simp only[aS,bK,cL,bR,Nat.reduceAdd]at hnH);have hB0:(0 == H12.next)=false:=aZ ac;have hC0:(H12.next == 0)=false:=aZ ac;repeat' (first
     |(apply ay ?_;clear hK K)|apply a9 ?_|(apply bU ?_ ?_<;>(intro hb hbp;try(cases hb;done)))|(apply az fun K hK=>?_)|fail)
    .have hlt2:j<C.length:=by simpa using hb
     obtain⟨q,ia,ld⟩:=r12.at hlt2;have hdr2:gE Z (C.drop j)=(bL Z C[j]||gE (Z++[C[j]]) (C.drop (j+1))):=by rw[i4 hlt2];rfl
     refine dX ?_;refine qj ?_;refine a8 ?_ (L3 (fun _=>rfl) rfl (.inr q12) ac C[j]);rintro w0 L ⟨rfl,s13,n13,f13,o13⟩;have m13:H12.next<=L.next:=ac
     clear n13;dsimp only[a0];have g130:L.get 0=some (.cells p.cells 0 true):=by rw[f13 0 ac];exact m
     have r13:dW L w11 C O.next:=r12.keep m13 fun k z=>o13 k fun h=>hno k h z
     have v13:eU L v (cJ p) 1:=v12.keep m13 fun k z=>f13 k (by have:=c3 k z;omega);have u13:dW L u6 (seen++[p.funcs[i].name]) H2.next:=u12.keep m13 fun k z=>f13 k (cu k z)
     clear ia ld;obtain⟨q2,ia2,ld2⟩:=r13.at hlt2;repeat' (first
      |(apply ay ?_;clear hK K)|apply a9 ?_|(apply bU ?_ ?_<;>(intro hb hbp;try(cases hb;done)))|(apply az fun K hK=>?_)|fail)
     .all_goals refine qi ?_
      rw[nK,hJ',hJ2,hdr,hJ3,hdr2];(try simp only[fA]at *);simp only[*,nX,sN,]
     have V:∀k,k<L.next->(L.alloc (.cells [.ay C[j]] 0 true)).get k=L.get k:=fun k z=>dT
     have s13b:eU (L.alloc (.cells [.ay C[j]] 0 true)) w Z H6.next:=s13.keep (dg _) fun k z=>V k (s13.lt z).2
     obtain⟨w14,H14,a14,s14,n14,f14,o14⟩:=Du (r:=L.next) (imm:=0) C[j] s13b iF fw ac;simp only[aS]at n14;have m14:L.next+2<=H14.next:=ac
     clear n14;have g140:H14.get 0=some (.cells p.cells 0 true):=by rw[f14 0 ac,V _ ac];exact g130
     refine mG cS cS (by rw[Y];exact a14) ?_;refine dX ?_;refine⟨ac,aW,aW,b8,S0,?_⟩;refine⟨w14,Z++[C[j]],eE,s14,fun k h1 h2=>?_,?_,?_,?_,by rw[hJ3,hdr2];(try simp only[fA]at *);simp only[*,l5,],by simp[hsl2];omega⟩
     .have z:=(r13.lt h2).2;rcases o14.2 k h1 with h3|h3
      .exact hno k h3 h2
      .simp only[aS]at h3;omega
     .refine r13.keep ac fun k z=>?_;have hl:=(r13.lt z).2;rw[o14.1 k iF (fun h=>hno k h z),V k hl]
     .exact v13.keep ac fun k z=>by rw[f14 k (by have:=c3 k z;omega),V k (v13.lt z).2]
     .exact u13.keep ac fun k z=>by rw[f14 k (cu k z),V k (u13.lt z).2]
    .have hje:j=C.length:=by simp at hb;omega
     rw[hje,kL]at hJ3;have hJ3':gE (cJ p) C=false:=hJ3;refine⟨ac,aW,aW,b8,zf,?_⟩;exact⟨u6,seen++[p.funcs[i].name],eE,.inr u12,v12,by rw[hJ2,hdr,hJ3'];(try simp only[fA]at *);simp only[*,l5,oY,],by simp[hsl]⟩
  .all_goals refine qi ?_
   have hie:i=p.funcs.length:=HF;rw[hie,kL]at hJ2;have hJ2':pW (cJ p) [] p.funcs=false:=hJ2;rw[nK,hJ',hJ2'];rfl)
end
section
def tyR3h.tyF:=ad @dm (ad @cG (ad @eG (ad @jU (ad @jx (ad @jh (ad @iC (ad @LL (ad @ij (ad @l8 (ad @i7 (@kg)))))))))))
open tyR3h
noncomputable def TL:=qd (M:=43) f97.eq_1
noncomputable def TM:=qd (M:=64) f149.eq_1
structure Sc where
 vars:qC
 ab:Option qC
 p:Pr
def Sc.an(x:Sc):qC:=x.ab.getD []
def uQ:Option qC->AV
 |none=>.ao
 |some l=>gV l
def Sc.cells(x:Sc):qB:=[gV x.vars,uQ x.ab,.aE (x.p.ab.map Ar.cells),.aE (x.p.funcs.map Fu.cells)]
def Sc.ok(x:Sc):Prop:=x.vars.length<2^60/\x.an.length<2^60/\x.p.sz<2^60
theorem Sc.c0(x:Sc):x.cells[0]?=some (gV x.vars):=rfl
theorem Sc.c1(x:Sc):x.cells[1]?=some (uQ x.ab):=rfl
theorem Sc.bB(x:Sc):cr 4 x.cells=some (.agg x.cells):=rfl
def DH:=@Sc.bB
theorem TN(x:Sc):cr 2 (x.cells.drop 2)=some (.agg x.p.cells):=rfl
def zhI(a:Option qC):gD (uQ a):=by
 cases a with
 |none=>exact .ao
 |some l=>exact De l
def Sc.pure(x:Sc):iD x.cells:=.cons (De _) (.cons (zhI _) x.p.pure)
def zhJ{a b:Option qC}(h:uQ a=uQ b):a=b:=by
 cases a<;>cases b<;>simp only[uQ,reduceCtorEq,AV.aE.injEq]at h
 .rfl
 .rw[Df h]
def Sc.inj{x y:Sc}(h:x.cells=y.cells):x=y:=by
 obtain⟨v,a,p⟩:=x;obtain⟨Y,O,V⟩:=y;simp only[Sc.cells,eX,AV.aE.injEq,aV]at h;obtain⟨j,m,C,Z⟩:=h;rw[Df j,zhJ m,Pr.inj (x:=p) (y:=V) (by simp[Pr.cells,C,Z])]
section
variable (vs an:qC)
def pj(x:Ex):Bool:=(!decide (x.az=2)||bL vs x.name)&&(!decide (x.az=3)||bL an x.name)
mutual
def fC:Ex->Bool
 | .mk k n s o L=>fW L&&pj vs an (.mk k n s o L)
def fW:qM->Bool
 |[]=>true
 |e::es=>fC e&&fW es
end
theorem zt(x:Ex):fC vs an x=(fW vs an x.ak&&pj vs an x):=by cases x;rw[fC];rfl
end
def sP(x:Sc×Ex):qB:=[.agg x.1.cells,.agg x.2.cells]
def HR(x y:Sc×Ex)(h:sP x=sP y):x=y:=by
 simp only[sP,eX,AV.agg.injEq,aV]at h;exact sK (Sc.inj h.1) (Ex.inj h.2)
def HS{l:qH}(L:∀m,dU l 148 m=uK.sp m)(a:Option qC)(Z:(a.getD []).length<2^60)(s:qD)(H:Hp):
 aR prog (aA pls l) 148 [uQ a,.ay s] H fun v H'=>v=.bool (bL (a.getD []) s)/\H'=H:=by
 have:=cQ (P:=prog) (pls:=pls) (l:=l) (enc:=vZ) (ok:=fun x=>(x.1.getD []).length<2^60) (out:=fun x=>.bool (bL (x.1.getD []) x.2)) L0 (g:=148) (x:=(a,s)) (L _) Z (H:=H);cases a<;>exact this
def zhK:∀x:Sc×Ex,(x.1.ok/\x.2.sz<2^60)->bA prog ρ 97 (sP x) (.bool (fC x.1.vars x.1.an x.2)):=
 zd fit (pls:=pls) (l:=[uK]) ⟨L2 ρ,trivial⟩ (fun x=>x.2.sz) (ok:=fun x=>x.1.ok/\x.2.sz<2^60) (enc:=sP) (out:=fun x=>.bool (fC x.1.vars x.1.an x.2)) (fun x _=>.cons (.agg x.1.pure) (.cons (.agg x.2.pure) .nil)) (fun x _=>.bool _) (fun x Y=>by
 have hw:=zh (sz:=fun x:Sc×Ex=>x.2.sz) (ok:=fun x=>x.1.ok/\x.2.sz<2^60) (out:=fun x=>.bool (fC x.1.vars x.1.an x.2)) HR (f:=97) (l:=[uK]) x;generalize O:(⟨97,false,co (fun y=>(y.1.ok/\y.2.sz<2^60)/\y.2.sz<x.2.sz) sP fun x=>.bool (fC x.1.vars x.1.an x.2)⟩:En)::[uK]=l at hw⊢;obtain⟨c,x⟩:=x;obtain⟨hc,Y⟩:=Y;simp only[]at Y hc;have kr:∀y:Ex,y.sz<x.sz->∀H,aR prog (aA pls l) 97 [.agg c.cells,.agg y.cells] H fun v H'=>v=.bool (fC c.vars c.an y)/\H'=H:=fun y h2 H=>by
  subst O;exact cQ (enc:=sP) (out:=fun x=>.bool (fC x.1.vars x.1.an x.2)) HR (x:=(c,y)) rfl ⟨⟨hc,xN⟩,h2⟩
 have kv:∀s H,aR prog (aA pls l) 148 [gV c.vars,.ay s] H fun v H'=>v=.bool (bL c.vars s)/\H'=H:=fun s H=>by
  subst O;exact HS (fun _=>rfl) (some c.vars) hc.1 s H
 have ka:∀s H,aR prog (aA pls l) 148 [uQ c.ab,.ay s] H fun v H'=>v=.bool (bL c.an s)/\H'=H:=fun s H=>by
  subst O;exact HS (fun _=>rfl) c.ab hc.2.1 s H
 have hsz:=x.a9;have hlen:=xe x.ak;change aR _ _ _ [.agg c.cells,.agg x.cells] _ _;refine a4 (M:=43) (rs:=[.tmp 4]) hw.call hw.bU hw.cm func97 rfl rfl TL.2.1 rfl ?_;dsimp only[TL,qd,a1,Nat.reduceAdd];refine mA ?_;refine cP [2,3] [0,1] 5 x.ak.length (fun i E H=>fW c.vars c.an x.ak=fW c.vars c.an (x.ak.drop i)) eE aB ?_;rintro i E Z hi V J L hsI I;(try simp only[bz,a7,aV,aK,bb,Nat.reduceBEq, *]at V);(try simp only[bz,a7,aV,aK,bb,Nat.reduceBEq, *]at J);(try simp only[aS,cL,bR,Nat.reduceAdd]at L);have hB0:(0 == Z.next)=false:=aZ ac;have hC0:(Z.next == 0)=false:=aZ ac;have hB1:(1 == Z.next)=false:=aZ ac;have hC1:(Z.next == 1)=false:=aZ ac;have m:=@Sc.c0;have gh1:=@Sc.c1;have gh2:=@DH;repeat' (first
  |(apply ay ?_;clear hK K)|apply a9 ?_|(apply fq ?_;first|refine Rx.k (kv _ _) ?_|refine Rx.k (ka _ _) ?_)|(apply gL ?_ ?_<;>(intro hg hgp;try(cases hg;done)))|(apply bU ?_ ?_<;>(intro hb hbp;try(cases hb;done)))|(apply az fun K hK=>?_)|(apply bV 4 [(0,6),(2,6),(5,6)] fun K hK=>?_)|(apply bB ?_;try intro _)|fail)
 .have C:i<x.ak.length:=by simpa using hb
  have hgx:x.ak[i]?=some x.ak[i]:=aX C;have hm:=ux (dE C);have z:fW c.vars c.an (x.ak.drop i)=(fC c.vars c.an x.ak[i]&&fW c.vars c.an (x.ak.drop (i+1))):=oW;have m:=@DH;repeat' (first
   |(apply ay ?_;clear hK K)|apply a9 ?_|(apply fq ?_;first|refine Rx.k (kr _ ac _) ?_)|(apply bU ?_ ?_<;>(intro hb hbp;try(cases hb;done)))|(apply az fun K hK=>?_)|(apply bB ?_;try intro _)|(apply bY ?_ ?_<;>clear hK K)|fail)
  .exact bM
  all_goals (first|(refine⟨aE,_,aO,?_⟩;(try simp only[aD]);rw[zt,I,z];(try simp only[ul]at *);simp only[*,nh,];done)|skip)
  refine⟨ac,aW,aW,b8,LU,?_⟩;rw[I,z];(try simp only[kY]at *);simp only[*,gW,]
 all_goals
  have j:i=x.ak.length:=ac;rw[j,kL]at I;have hJ':fW c.vars c.an x.ak=true:=I;clear I;all_goals refine qi ?_
  rw[zt,hJ',pj];(try simp only[fA]at *);simp only[ *,l5,oY,nX,sN,pP,gW,fV,uz,mJ,])
def mN(c:Sc)(x:St):Bool:=
 if x.az=1 then bL c.vars x.name
 else if x.az=6 then bL c.vars x.name&&decide (0<=bW c.p.funcs x.to 0)
 else if x.az=2 then bL c.an x.name
 else true
def k4(c:Sc)(x:St):Bool:=fW c.vars c.an x.args&&fC c.vars c.an x.bz&&fC c.vars c.an x.value&&mN c x
def DI(x:Sc×St):qB:=[.agg x.1.cells,.agg x.2.cells]
def zhL(x y:Sc×St)(h:DI x=DI y):x=y:=by
 simp only[DI,eX,AV.agg.injEq,aV]at h;exact sK (Sc.inj h.1) (St.inj h.2)
noncomputable def MH:En:=⟨97,true,co (fun x=>x.1.ok/\x.2.sz<2^60) sP fun x=>.bool (fC x.1.vars x.1.an x.2)⟩
def TO:de prog ρ MH:=dA fun x I=>zhK ρ x I
def zu(x:Pr×qD):qB:=[.agg x.1.cells,.ay x.2]
def MI(x y:Pr×qD)(h:zu x=zu y):x=y:=by
 simp only[zu,eX,AV.agg.injEq,AV.ay.injEq,aV]at h;exact sK (Pr.inj h.1) h.2
noncomputable def AY:En:=⟨55,false,co (fun x=>x.1.funcs.length<2^60) zu fun x=>.int .i64 (bW x.1.funcs x.2 0)⟩
def MJ:de prog ρ AY:=dA fun x I=>zfW ρ x.1 x.2 I
noncomputable def AZ:qH:=[uK,AY,MH]
def zhM:gX prog ρ AZ:=⟨L2 ρ,MJ ρ,TO ρ,trivial⟩
theorem zhN(c:Sc)(x:St)(L:c.ok)(hx:x.sz<2^60):bA prog ρ 149 [.agg c.cells,.agg x.cells] (.bool (k4 c x)):=fF fit (pls:=pls) (zhM ρ) (.cons (.agg c.pure) (.cons (.agg x.pure) .nil)) (.bool _) (by
 have hw:zd0 (aA pls AZ) 149:=gY (fun _=>rfl) rfl;have kr:∀y:Ex,y.sz<2^60->∀H,aR prog (aA pls AZ) 97 [.agg c.cells,.agg y.cells] H fun v H'=>v=.bool (fC c.vars c.an y)/\H'=H:=fun y h2 H=>cQ (enc:=sP) (out:=fun x=>.bool (fC x.1.vars x.1.an x.2)) HR (x:=(c,y)) rfl ⟨L,h2⟩;have kv:∀s H,aR prog (aA pls AZ) 148 [gV c.vars,.ay s] H fun v H'=>v=.bool (bL c.vars s)/\H'=H:=fun s H=>HS (fun _=>rfl) (some c.vars) L.1 s H;have ka:∀s H,aR prog (aA pls AZ) 148 [uQ c.ab,.ay s] H fun v H'=>v=.bool (bL c.an s)/\H'=H:=fun s H=>HS (fun _=>rfl) c.ab L.2.1 s H;have O:c.p.funcs.length<2^60:=by have h:=L.2.2;have h2:c.p.sz=1+jt c.p.ab+iA c.p.funcs:=rfl;have:=vJ c.p.funcs;omega
 have kf:∀s H,aR prog (aA pls AZ) 55 [.agg c.p.cells,.ay s] H fun v H'=>v=.int .i64 (bW c.p.funcs s 0)/\H'=H:=fun s H=>cQ (enc:=zu) (out:=fun x=>.int .i64 (bW x.1.funcs x.2 0)) MI (x:=(c.p,s)) rfl O;have hsz:=x.a9;have hlen:=xe x.args;refine qe hw func149 TM ?_;dsimp only[TM,qd,a1,Nat.reduceAdd];refine mA ?_;refine cP [2,3] [0,1] 5 x.args.length (fun i E H=>fW c.vars c.an x.args=fW c.vars c.an (x.args.drop i)) eE aB ?_;rintro i E Z hi Y J V hsI I;(try simp only[bz,a7,aV,aK,bb,Nat.reduceBEq, *]at Y);(try simp only[bz,a7,aV,aK,bb,Nat.reduceBEq, *]at J);(try simp only[aS,cL,bR,Nat.reduceAdd]at V);have hB0:(0 == Z.next)=false:=aZ ac;have hC0:(Z.next == 0)=false:=aZ ac;have hB1:(1 == Z.next)=false:=aZ ac;have hC1:(Z.next == 1)=false:=aZ ac;have m:=@Sc.c0;have gh1:=@Sc.c1;have gh2:=@DH;have gh3:=@TN;repeat' (first
  |(apply ay ?_;clear hK K)|apply a9 ?_|(apply fq ?_;first|refine Rx.k (kr _ ac _) ?_|refine Rx.k (kf _ _) ?_|refine Rx.k (kv _ _) ?_|refine Rx.k (ka _ _) ?_)|(apply gL ?_ ?_<;>(intro hg hgp;try(cases hg;done)))|(apply bU ?_ ?_<;>(intro hb hbp;try(cases hb;done)))|(apply az fun K hK=>?_)|(apply bV 4 [(0,6),(2,6),(5,6)] fun K hK=>?_)|(apply bB ?_;try intro _)|fail)
 .have C:i<x.args.length:=by simpa using hb
  have hgx:x.args[i]?=some x.args[i]:=aX C;have hm:=ux (dE C);have z:fW c.vars c.an (x.args.drop i)=(fC c.vars c.an x.args[i]&&fW c.vars c.an (x.args.drop (i+1))):=oW;have m:=@DH;repeat' (first
   |(apply ay ?_;clear hK K)|apply a9 ?_|(apply fq ?_;first|refine Rx.k (kr _ ac _) ?_)|(apply bU ?_ ?_<;>(intro hb hbp;try(cases hb;done)))|(apply az fun K hK=>?_)|(apply bB ?_;try intro _)|(apply bY ?_ ?_<;>clear hK K)|fail)
  .exact bM
  all_goals (first|(refine⟨aE,_,aO,?_⟩;(try simp only[aD]);rw[k4,I,z];(try simp only[ul]at *);simp only[*,nh,];done)|skip)
  refine⟨ac,aW,aW,b8,Mv,?_⟩;rw[I,z];(try simp only[kY]at *);simp only[*,gW,]
 all_goals
  have j:i=x.args.length:=ac;rw[j,kL]at I;have hJ':fW c.vars c.an x.args=true:=I;clear I;all_goals refine qi ?_
  rw[k4,hJ',mN];(try simp only[fA]at *);simp only[ *,pP,gW,fV,dG,fK,Int.reduceEq])
end
end Go.Proofs.YtbflaciihaijgaaGreat
