/- Parts: I3, I4, VeV, K1, K2a, K2b, K2, K3. -/
import Derived.Test.YtljebeflbbgibaaGreatWCH
set_option linter.unusedSimpArgs false
set_option linter.unusedVariables false
set_option linter.unusedSectionVars false
set_option linter.defProp false
set_option maxHeartbeats 32000000
namespace Go.Ab
set_option maxRecDepth 20000
open Go
theorem lz{P:Prop}(h:P:=by simp only[QA];omega):P:=h
theorem kH{P:Prop}(h:P:=by simp only[QA]at n5;omega):P:=h
theorem gz{P:Prop}(h:P:=by rfl):P:=h
theorem nY{P:Prop}(h:P:=by rw[J];simp):P:=h
theorem nZ{P:Prop}(h:P:=by rw[J];exact s5):P:=h
theorem gY{P:Prop}(h:P:=by rw[List.length_set];exact g):P:=h
theorem fN{P:Prop}(h:P:=by simp only[];omega):P:=h
theorem zQ{P:Prop}(h:P:=by have:=hok.k1 (.inl c20);simp only[]at this;omega):P:=h
theorem zR{P:Prop}(h:P:=by rw[dd,if_neg c1,if_neg (fun h=>c2 h.1),if_pos (.inl c20),I]):P:=h
theorem zS{P:Prop}(h:P:=by have:=hok.k1 (.inr c21);simp only[]at this;omega):P:=h
theorem zT{P:Prop}(h:P:=by rw[dd,if_neg c1,if_neg (fun h=>c2 h.1),if_pos (.inr c21),I]):P:=h
theorem vp{P:Prop}(h:P:=by rw[List.drop_eq_getElem_cons Y];rfl):P:=h
theorem iO{P:Prop}(h:P:=by rw[g];simp):P:=h
theorem sk{P:Prop}(h:P:=by simp_all;done):P:=h
theorem zU{P:Prop}(h:P:=by rw[Hp.get_set,if_neg aa,P8,if_neg aa]):P:=h
theorem p9{P:Prop}(h:P:=by simp only[P7,Nat.reduceBEq, *];exact Su (n:=n.kids.length) aa aa):P:=h
theorem sm{P:Prop}(h:P:=by rw[List.getD_eq_getElem?_getD,List.getElem?_eq_getElem aa];rfl):P:=h
theorem lA{P:Prop}(h:P:=by simp only[P7,Nat.reduceBEq, *];exact Su (n:=l.length) aa aa):P:=h
theorem sn{P:Prop}(h:P:=by rw[P8,if_pos gz]):P:=h
theorem zV{P:Prop}(h:P:=by rw[show(((m+1:Nat):Int) - 1)=m by omega];exact eE):P:=h
theorem so{P:Prop}(h:P:=by simp only[P7,Nat.reduceBEq, *];exact Su (n:=m+1) aa aa):P:=h
theorem sq{P:Prop}(h:P:=by rw[Hp.get_set,if_neg aa,P8,if_neg aa];exact g0):P:=h
theorem gZ{P:Prop}(h:P:=by simp only[P7,Nat.reduceBEq, *];exact Su (n:=D.length) aa aa):P:=h
theorem zW{P:Prop}(h:P:=by rw[dd,if_neg c1,if_neg (fun h=>c2 h.1),if_neg fN,if_pos ⟨cb1,cb2⟩,I,hkb]):P:=h
theorem zX{P:Prop}(h:P:=by rw[dd,if_neg c1,if_neg (fun h=>c2 h.1),if_neg fN,if_neg cb,if_neg c22]):P:=h
def n0:=@List.map_nil
def zY:=@List.mem_singleton_self
def qa:=@Int.not_lt
def vq:=@List.length_filter_le
def gb:=@Option.bind_some
def sr:=@Option.bind_none
def lB:=@Bool.or_true
def zZ:=@Int.tdiv_eq_ediv_of_nonneg
def vr:=@List.map_drop
end Go.Ab
namespace Go.Proofs.YtljebeflbbgibaaGreat
set_option maxRecDepth 20000
open Go Go.Ab
section
def tyI3.tyF:=ac @cZ (ac @dK (ac @ey (ac @ez (ac @dr (ac @jU (@pC))))))
open tyI3
noncomputable def z0:{c:SC // aB 80 (Tryz.f121.body.getD .skip)=c}:=by
 refine⟨?_,?_⟩;rotate_left
 .simp only[Tryz.f121,bh,aB,Qh,Qe,Qm,Qn,Nat.blt,Nat.ble];rfl
noncomputable def z4:{c:SC // aB 22 (Tryz.f78.body.getD .skip)=c}:=by
 refine⟨?_,?_⟩;rotate_left
 .simp only[Tryz.f78,bh,aB,Qh,Qe,Qm,Qn,Nat.blt,Nat.ble];rfl
noncomputable def n1:{c:SC // aB 21 (Tryz.f46.body.getD .skip)=c}:=by
 refine⟨?_,?_⟩;rotate_left
 .simp only[Tryz.f46,bh,aB,Qh,Qe,Qm,Qn,Nat.blt,Nat.ble];rfl
theorem vt(S:Nat->Prop)(n:Nat)(H:Hp):∀s:List Int,QB (QG S (n+1) H) (s.map (.int .i64)) (s.map (.int .i64))
 |[]=>trivial
 |a::s=>⟨i8 ⟨.int _ _,trivial⟩,vt S n H s⟩
theorem ss(n:Nat)(s:List Int):bg (n+2) (Qg s)=Qg s:=by
 show AV.lst ((s.map fun n=>[AV.int .i64 n]).map fun O=>O.map (bg (n+1)))=_;rw[nt];rfl
theorem QL.ic{H:Hp}{v:AV}{s:List Int}{lo:Nat}(h:QL H v s lo):∃u,QG (fun k=>lo<=k) 3 H v u/\bg 60 u=Qg s:=by
 rcases h with⟨rfl,rfl⟩|⟨r,j,rfl,g,o,U,A⟩
 .exact⟨.nilS,i8 ⟨.nilS,trivial⟩,rfl⟩
 .refine⟨.lst (Rv 1 s.length (s.map (.int .i64))),⟨U,A,s.map (.int .i64),j,true,s.map (.int .i64),g,by simpa using o,aA,?_,rfl⟩,?_⟩
  .rw[eN,jw,fF aA];exact vt _ _ _ _
  .rw[sf];exact ss 58 s
theorem dx.icy{S:Nat->Prop}{H H':Hp}{v:AV}{s:List Int}{lo:Nat}(h:dx H v s lo)(k:Icy S H H'):dx H' v s lo:=by
 obtain⟨r,Z,rfl,g,o,U,A⟩:=h;rcases k.same r with e|⟨M,i,j,V,Y,z,I⟩
 .exact⟨r,Z,rfl,by rw[<-e];exact g,o,U,by rw[k.next];exact A⟩
 .rw[g]at Y;simp only[au,HB.cells.injEq]at Y;obtain⟨rfl,rfl,rfl⟩:=Y;exact⟨r,j,rfl,z,by have:=I (by simpa using o);simpa using this,U,by rw[k.next];exact A⟩
theorem QL.icy{S:Nat->Prop}{H H':Hp}{v:AV}{s:List Int}{lo:Nat}(h:QL H v s lo)(k:Icy S H H'):QL H' v s lo:=h.imp id fun h=>h.icy k
noncomputable def vu:En:=⟨167,true,bG (fun x=>x.2.length<2^30) ly fun x=>.bool (Qj x.1.op x.2)⟩
theorem M5(ρ:Nat->Int):QM Tryz.prog ρ vu:=QP fun x C=>M4 ρ x C
noncomputable def mL:List En:=[i9 vu,zM]
theorem M6(ρ:Nat->Int):dG Tryz.prog ρ mL:=⟨nF (M5 ρ),MW ρ,trivial⟩
theorem z5(n:Nat)(x:Nd):bg (n+4) (.agg x.cells)=.agg x.cells:=by
 show AV.agg (x.cells.map (bg (n+3)))=_;rw[Nd.cells];simp only[dS,n0,ss];rfl
theorem M7(y:Nd×List Int):(ly y).any (gT 90)=false:=by
 obtain⟨⟨C,j,A⟩,s⟩:=y;rfl
theorem M8{l:List En}(I:∀C,QT l 167 C=(i9 vu).sp C)(F:iI l 167=true){H:Hp}{v:AV}{s:List Int}{lo:Nat}(J:QL H v s lo)(K:s.length<2^30)(n:Nd):
 P2 Tryz.prog (PU pls l) 167 [.agg n.cells,v] H fun w H'=>w=.bool (Qj n.op s)/\Icy (fun k=>lo<=k) H H':=by
 obtain⟨u,i,g⟩:=J.ic;obtain⟨Z,o⟩:∃us,QB (QG (fun k=>lo<=k) 2 H) n.cells us/\us=n.cells:=by
  refine⟨n.cells,?_,rfl⟩;rw[Nd.cells];exact⟨i8 ⟨.int _ _,trivial⟩,i8 ⟨.int _ _,trivial⟩,i8 ⟨Sv _,trivial⟩,trivial⟩
 obtain⟨o,rfl⟩:=o;refine sd (x:=((n,s):Nd×List Int)) (enc:=ly) (ok:=fun x=>x.2.length<2^30) (out:=fun x=>.bool (Qj x.1.op x.2)) (us:=[.agg n.cells,u]) (n:=3) MY (fun C=>by rw[I];rfl) F M7 K aa ⟨⟨n.cells,o,rfl⟩,i,trivial⟩ ?_;show [bg 60 (.agg n.cells),bg 60 u]=_;rw[g,z5 56];rfl
theorem z6{i:Nat}{kn kids:List Int}{j:Nat}(O:j<kids.length):Rf i kn (kids.drop j)=if kids[j]<0\/(i:Int)<=kids[j]\/kn.getD kids[j].toNat 0=0 then none else (Rf i kn (kids.drop (j+1))).map fun s=>kn.getD kids[j].toNat 0::s:=by
 rw[jb O,Rf]
def kI(i:Nat)(kn kids:List Int)(j:Nat)(s:List Int):Prop:=s.length=j/\Rf i kn kids=(Rf i kn (kids.drop j)).map fun t=>s++t
theorem kI.bad{i:Nat}{kn kids:List Int}{j:Nat}{s:List Int}(h:kI i kn kids j s){Z:Int}(A:kids[j]?=some Z)(z:Z<0\/(i:Int)<=Z\/kn.getD Z.toNat 0=0):Rf i kn kids=none:=by
 obtain⟨O,e⟩:=cG.1 A;rw[h.2,z6 O,e,az z];rfl
theorem kI.next{i:Nat}{kn kids:List Int}{j:Nat}{s:List Int}(h:kI i kn kids j s){Z:Int}(A:kids[j]?=some Z)(z:¬(Z<0\/(i:Int)<=Z\/kn.getD Z.toNat 0=0)):kI i kn kids (j+1) (s++[kn.getD Z.toNat 0]):=by
 obtain⟨O,e⟩:=cG.1 A;refine⟨by simp[h.1],?_⟩;rw[h.2,z6 O,e,af z];cases Rf i kn (kids.drop (j+1))with
 |none=>rfl
 |some t=>simp
theorem kI.done{i:Nat}{kn kids:List Int}{s:List Int}(h:kI i kn kids kids.length s):Rf i kn kids=some s:=by
 rw[h.2,lp];simp[Rf]
theorem su{l:List Nd}{i:Nat}{kn:List Int}{n:Nd}(m:l[i]?=some n)(h:Rf i kn n.kids=none):Rq l i kn=0:=by
 rw[Rq,m];simp only[h]
theorem M9{l:List Nd}{i:Nat}{kn:List Int}{n:Nd}{s:List Int}(m:l[i]?=some n)(h:Rf i kn n.kids=some s):Rq l i kn=if Qj n.op s&&QE l n then QS n s else 0:=by
 rw[Rq,m];simp only[h]
theorem Na{op:Int}{s:List Int}(h:Qj op s=true)(i:op=25):s.length=1:=by
 subst i;by_cases c:s.length=1
 .exact c
 .rw[vo bA (by have e:(aM 25).1=1:=rfl;rw[e];omega)]at h;cases h
theorem Nb{op:Int}{s:List Int}(h:Qj op s=true)(F:op=22):s.length=3:=by
 subst F;by_cases c:s.length=3
 .exact c
 .rw[vo bA (by have e:(aM 22).1=3:=rfl;rw[e];omega)]at h;cases h
theorem Nc{l:List Nd}{i:Nat}{kn s:List Int}{n:Nd}(F:i<l.length)(L:∀n∈l,n.kids.length<2^30)(j:Rf i kn n.kids=some s)(J:Qj n.op s=true):p8 (l,n):=by
 intro Z;have Y:=Na J Z;rw[jT j]at Y;obtain⟨k,g⟩:=iN Y;simp only[]at g⊢;obtain⟨o,U,_⟩:=nC j k (by rw[g];exact zY _);obtain⟨m,rfl⟩:=cX o;have V:m<l.length:=aa;exact⟨m,l[m],by rw[g];rfl,a1 V,by have:=L _ (e9 V);omega⟩
set_option maxRecDepth 100000 in
theorem Nf{l:List Nd}{i:Nat}{kn:List Int}{r:Nat}{H:Hp}(hl:l.length<2^30)(hi:i<l.length)(hkl:∀n∈l,n.kids.length<2^30)(hkn:l.length<=kn.length)(A:H.get r=some (.cells (kn.map (.int .i64)) 0 true))(hr:r<H.next):
 P2 Tryz.prog (PU pls mL) 121 [Qz l,.int .i64 i,.sl r 0 kn.length 1] H fun v H'=>v=.int .i64 (Rq l i kn)/\H.next<=H'.next/\∀k,k<H.next->H'.get k=H.get k:=by
 have hw:Plain (PU pls mL) 121:=Ra (fun _=>rfl) rfl;have hkeep:(PU pls mL).keep 121=false:=rfl;have U:l[i]?=some l[i]:=a1 hi;have hnk:=hkl _ (e9 hi);generalize l[i]=n at *;refine P4 (M:=80) (rs:=[.tmp 6]) (hw.call _) hw.ice hw.froz Tryz.func121 rfl rfl z0.2 rfl ?_;dsimp only[z0,PZ,Nat.reduceAdd];repeat' (first
  |(apply PO ?_;clear hK K)|apply Rx.o ?_|apply dL ?_|apply aj ?_|(apply PP fun K hK=>?_)|apply ay ?_|fail)
 refine Rk [0,1,2,7,16,17] [] 18 n.kids.length (fun j E J=>∃v s,E.at 8=v/\QL J v s (H.next+1)/\kI i kn n.kids j s/\J.get H.next=some (.cells n.cells 0 true)/\∀k,k<H.next->J.get k=H.get k) eE ⟨.nilS,[],eE,.inl ⟨rfl,rfl⟩,⟨rfl,aA⟩,dQ,fun k g=>zU⟩ ?_;rintro j E J hj hcE hrH hnH hsI ⟨v,s,k8,hv,I,hn7,Y⟩;(try simp only[QK,Qs,a7,P7,Qy,Nat.reduceBEq, *]at hcE);(try simp only[Qs,Qy, *]at hrH);(try simp only[QA,QZ,]at hnH);repeat' (first
  |(apply PO ?_;clear hK K)|apply Rx.o ?_|(apply a6 (fun z Z=>?_) (fun z Z=>?_)<;>try(cases z;done))|apply aj ?_|(apply PP fun K hK=>?_)|apply ay ?_|apply PR ?_|apply PX ?_)
 .have hlt:j<n.kids.length:=by simpa using z
  have C:n.kids[j]?=some n.kids[j]:=a1 hlt;generalize n.kids[j]=kd at *;have g2r:J.get r=some (.cells (kn.map (.int .i64)) 0 true):=by rw[Y r hr];exact A
  by_cases c1:kd<0
  .repeat' (first
    |(apply PO ?_;clear hK K)|apply Ry.o ?_|(apply aU (fun A V=>?_) (fun A V=>?_)<;>try(cases A;done))|(apply aH (fun z Z=>?_) (fun z Z=>?_)<;>try(cases z;done))|apply aj ?_|(apply PP fun K hK=>?_)|apply aq ?_|fail)
   all_goals (refine⟨eI,_,P0,?_⟩;try simp only[PT])
   refine⟨?_,aa,Y⟩;rw[su U (I.bad C (.inl c1))]
  by_cases c2:(i:Int)<=kd
  .have c1':¬kd<0:=c1;repeat' (first
    |(apply PO ?_;clear hK K)|apply Ry.o ?_|(apply aU (fun A V=>?_) (fun A V=>?_)<;>try(cases A;done))|(apply aH (fun z Z=>?_) (fun z Z=>?_)<;>try(cases z;done))|apply aj ?_|(apply PP fun K hK=>?_)|apply aq ?_|fail)
   all_goals (refine⟨eI,_,P0,?_⟩;try simp only[PT])
   refine⟨?_,aa,Y⟩;rw[su U (I.bad C (.inr (.inl c2)))]
  obtain⟨m,rfl⟩:=cX (qa.1 c1);have hml:m<kn.length:=aa;have hgk:kn[m]?=some kn[m]:=a1 hml;have hgd:kn.getD (m:Int).toNat 0=kn[m]:=by rw[cY,cN,hgk];rfl
  have hia:Qt Tryz.prog 23 (.sl r 0 kn.length 1) (.int .i64 (m:Int))=some (.ptr r m):=by rw[mh Tryz.underlying23 fy hml];simp
  have hld:Ru Tryz.prog J 3 (.ptr r m)=some (.int .i64 kn[m]):=by rw[j3 Tryz.underlying3 rfl g2r,dY,hgk];rfl
  generalize kn[m]=x at *;repeat' (first
   |(apply PO ?_;clear hK K)|apply Ry.o ?_|(apply aU (fun A V=>?_) (fun A V=>?_)<;>try(cases A;done))|(apply aH (fun z Z=>?_) (fun z Z=>?_)<;>try(cases z;done))|apply aj ?_|(apply PP fun K hK=>?_)|apply PR ?_|apply aq ?_|fail)
  .all_goals (refine⟨eI,_,P0,?_⟩;try simp only[PT])
   refine⟨?_,aa,Y⟩;rw[su U (I.bad C (.inr (.inr (by rw[hgd];assumption))))]
  .have hvb:QL (J.alloc (.cells [.int .i64 x] 0 true)) v s (H.next+1):=hv.keep (dD _) fun k g=>by rw[P8,af (by have:=(hv.lt g).2;omega)]
   obtain⟨v5,H5,a5,s5,n5,f5,o5⟩:=SM (r:=J.next) (imm:=0) x hvb lz eX (by have:=I.1;omega);have hJn:=I.next C (by rw[hgd];rintro(h|h|h)<;>contradiction)
   rw[hgd]at hJn;have n5':J.next<=H5.next:=kH
   clear n5;have old5:∀k,k<H.next+1->H5.get k=J.get k:=fun k g=>by rw[f5 k g,P8,af aa]
   refine mg eV eV (by rw[hkeep];exact a5) ?_;repeat' (first
    |(apply PO ?_;clear hK K)|apply Rx.o ?_|(apply PP fun K hK=>?_)|fail)
   clear f5 o5 a5;refine⟨aa,P1,P1,QN,p9,?_⟩;refine⟨v5,s++[x],eE,.inr s5,hJn,by rw[old5 _ aa];exact hn7,fun k g=>by rw[old5 k aa,Y k g]⟩
 .have hje:j=n.kids.length:=by simp at z;omega
  rw[hje]at I;have F:=M9 U I.done;have hsl2:s.length<2^30:=by rw[I.1];exact hnk
  repeat' (first
   |(apply PO ?_;clear hK K)|fail)
  refine ci rfl cu cy ?_;simp only[b8];refine b3 ?_ (M8 (fun _=>rfl) rfl hv hsl2 n);rintro w H4 ⟨rfl,hy⟩;have n4:=hy.next
  have n4':H.next+1<=H4.next:=aa
  have O:=hv.icy hy;have g4:H4.get H.next=some (.cells n.cells 0 true):=by rw[hy.out _ aa];exact hn7
  have o4:∀k,k<H.next->H4.get k=H.get k:=fun k g=>by rw[hy.out _ aa,Y k g]
  clear hy n4 hv Y hn7;dsimp only[Qo];cases o:Qj n.op s with
  |false=>
   repeat' (first
    |(apply PO ?_;clear hK K)|apply Rx.o ?_|(apply cK (fun A V=>?_) (fun A V=>?_)<;>try(cases A;done))|(apply a6 (fun z Z=>?_) (fun z Z=>?_)<;>try(cases z;done))|apply aj ?_|(apply PP fun K hK=>?_)|apply aq ?_|fail)
   all_goals (refine⟨eI,_,P0,?_⟩;try simp only[PT])
   refine⟨?_,aa,o4⟩;rw[F,o];rfl
  |true=>
  have L:=Nc hi hkl I.done o;rw[o,ev]at F;have kim:∀H,P2 Tryz.prog (PU pls mL) 168 [Qz l,.agg n.cells] H fun v H'=>v=.bool (QE l n)/\H'=H:=fun H=>Q0 (enc:=mJ) (ok:=p8) (out:=fun x=>.bool (QE x.1 x.2)) zL (x:=(l,n)) rfl L;have hq:(16:Int)≠0:=bA;repeat' (first
   |(apply PO ?_;clear hK K)|apply Rx.o ?_|(apply eR ?_;first|refine Rx.k (kim _) ?_)|(apply cK (fun A V=>?_) (fun A V=>?_)<;>try(cases A;done))|(apply a6 (fun z Z=>?_) (fun z Z=>?_)<;>try(cases z;done))|apply aj ?_|(apply PP fun K hK=>?_)|apply ay ?_|apply PR ?_|apply aq ?_|fail)
  all_goals (first|(refine⟨eI,_,P0,?_⟩;(try simp only[PT]);refine⟨?_,aa,o4⟩;rw[F];unfold QS;clear L kim o4 O F U;simp_all;done)|skip)
  all_goals trace_state
  repeat' (first
   |(apply PO ?_;clear hK K)|fail)
  have h22:n.op=22:=dj;have hl3:=Nb o h22;rcases O with⟨_,hnil⟩|O
  .rw[hnil]at hl3;simp at hl3
  obtain⟨q,hix,hlo⟩:=O.at (i:=1) aa;have hix':Qt Tryz.prog 23 v (.int .i64 1)=some (.ptr q 1):=hix;repeat' (first
   |(apply PO ?_;clear hK K)|apply Rx.o ?_|apply aq ?_|fail)
  all_goals (refine⟨eI,_,P0,?_⟩;try simp only[PT])
  refine⟨?_,aa,o4⟩;have hgl:s.getD 1 0=s[1]' aa:=sm;rw[F];unfold QS;clear L kim o4 O F U;simp_all
theorem z7{i:Nat}{a b:List Int}(K:a.length=i):∀Z:List Int,Rf i (a++b) Z=Rf i a Z
 |[]=>rfl
 |k::Z=>by
  rw[Rf,Rf,z7 K Z];by_cases h:k<0\/(i:Int)<=k
  .rw[az aa,az aa]
  .have e:(a++b).getD k.toNat 0=a.getD k.toNat 0:=by rw[cN,cN,iy aa]
   rw[e]
theorem Ng(l:List Nd){i:Nat}(b:List Int):Rq l i (Qb l i++b)=Rq l i (Qb l i):=by
 unfold Rq;cases l[i]? with
 |none=>rfl
 |some n=>simp only[z7 (SV l i)]
def QY(l:List Nd):Prop:=l.length<2^30/\∀n∈l,n.kids.length<2^30
def mM(l:List Nd):List AV:=[Qz l]
theorem z8(x y:List Nd)(h:mM x=mM y):x=y:=by
 simp only[mM,dz,a7]at h;exact mI h
theorem Nh(ρ:Nat->Int)(l:List Nd)(hl:QY l):aX Tryz.prog ρ 78 [Qz l] (Qg (Qb l l.length)):=SY (m:=3) (cfg:=PU pls mL) fit (gL ρ) (dG.look (M6 ρ)) (.cons (Sq _) .nil) (by
 obtain⟨F,C⟩:=hl;have j:Plain (PU pls mL) 78:=Ra (fun _=>rfl) rfl;have hmk:∀H:Hp,RK Tryz.prog H 23 (.int .i64 l.length) (.int .i64 l.length)=some (.sl H.next 0 l.length 1,H.alloc (.cells ((List.replicate l.length (0:Int)).map (.int .i64)) 0 true)):=fun H=>zw _ _ (aC _) aa;refine P4 (M:=22) (rs:=[.tmp 2]) (j.call _) j.ice j.froz Tryz.func78 rfl rfl z4.2 rfl ?_;dsimp only[z4,PZ,Nat.reduceAdd];repeat' (first
  |(apply PO ?_;clear hK K)|apply Rx.o ?_|apply aj ?_|(apply PP fun K hK=>?_)|apply ay ?_|fail)
 refine Rk [0,2,3,9] [] 10 l.length (fun i E H=>H.get 0=some (.cells ((Qb l i++List.replicate (l.length-i) 0).map (.int .i64)) 0 true)) eE (by rw[P8,az gz];simp[Qb]) ?_;rintro i E H2 hi U O I hsI J;(try simp only[QK,Qs,a7,P7,Qy,Nat.reduceBEq, *]at U);(try simp only[Qs,Qy, *]at O);(try simp only[QA,Re,bZ]at I);repeat' (first
  |(apply PO ?_;clear hK K)|apply Rx.o ?_|(apply a6 (fun z V=>?_) (fun z V=>?_)<;>try(cases z;done))|apply aj ?_|(apply PP fun K hK=>?_)|apply ay ?_|apply PR ?_|apply aq ?_|apply PX ?_)
 .have Y:i<l.length:=by simpa using z
  refine ci rfl cu cy ?_;simp only[b8];have L:(Qb l i++List.replicate (l.length-i) (0:Int)).length=l.length:=by rw[eh,SV,pS];omega
  have A:=Nf (l:=l) (i:=i) (kn:=Qb l i++List.replicate (l.length-i) 0) (r:=0) (H:=H2) F Y C aa J aa;rw[L]at A;refine b3 ?_ A;rintro w H3 ⟨rfl,hn3,Z⟩;have g3:H3.get 0=_:=(Z 0 aa).trans J;have n3:1<=H3.next:=aa
  rw[Ng];dsimp only[Qo];generalize hx:Rq l i (Qb l i)=x;have g:Qb l (i+1)=Qb l i++[x]:=by rw[Qb,hx]
  repeat' (first
   |apply Ry.o ?_|fail)
  refine jD eV eV (pY g3 (by rw[cS,L];exact Y) x) ?_;repeat' (first
   |(apply PO ?_;clear hK K)|apply Rx.o ?_|(apply PP fun K hK=>?_)|fail)
  refine⟨aa,P1,P1,QN,lA,?_⟩;rw[a9,az rfl,g,<-lq];have o:List.replicate (l.length-i) (0:Int)=0::List.replicate (l.length-(i+1)) 0:=by rw[show l.length-i=(l.length-(i+1))+1 by omega];rfl
  rw[o,List.set_append,af kq,SV,nn,uY,iz];rfl
 .have hie:i=l.length:=by simp at z;omega
  rw[hie,nn]at J;repeat' (first
   |(apply PO ?_;clear hK K)|fail)
  all_goals (refine⟨eI,_,P0,?_⟩;try simp only[PT])
  have z:dx H2 (.sl 0 0 (Qb l l.length).length 1) (Qb l l.length) 0:=⟨0,0,rfl,nY,ca _,ca _,aa⟩;have:=z.iceV 1;rw[SV]at this;exact this)
noncomputable def sw:En:=⟨78,true,bG QY mM fun l=>Qg (Qb l l.length)⟩
theorem Ni(ρ:Nat->Int):QM Tryz.prog ρ sw:=QP fun l I=>Nh ρ l I
theorem Nj{tb:List En}(o:∀C,QT tb 78 C=sw.sp C)(l:List Nd)(I:QY l)(H:Hp):P2 Tryz.prog (PU pls tb) 78 [Qz l] H fun v H'=>v=Qg (Qb l l.length)/\H'=H:=
 Q0 (enc:=mM) (ok:=QY) (out:=fun l=>Qg (Qb l l.length)) z8 (x:=l) (o _) I
theorem QY.take{l:List Nd}(h:QY l)(k:Nat):QY (l.take k):=⟨by rw[kU];have:=h.1;omega,fun n m=>h.2 n (List.mem_of_mem_take m)⟩
theorem z9(l:List Nd)(k:Nat)(j:k<=l.length):RD Tryz.prog 26 (.lst (l.map Nd.cells)) none (some (.int .i64 (k:Int)))=some (.lst ((l.take k).map Nd.cells)):=by
 have Z:(k:Int)=Int.ofNat k:=rfl;simp only[RD,Tryz.underlying26,jL,Rl];rw[az ⟨ca _,by rw[cS];exact j⟩];have z:((l.map Nd.cells).drop 0).take (k-0)=(l.take k).map Nd.cells:=by rw[eN,qU,tF]
 rw[z];cases l.take k with
 |nil=>rfl
 |cons a l=>simp only[dS,Nd.clen,cr]
def eA(x:List Nd×Int):List AV:=[Qz x.1,.int .i64 x.2]
theorem n9(x y:List Nd×Int)(h:eA x=eA y):x=y:=by
 simp only[eA,dz,AV.int.injEq,a7,fJ]at h;exact iK (mI h.1) h.2
theorem Nk(ρ:Nat->Int)(x:List Nd×Int)(C:QY x.1):aX Tryz.prog ρ 46 (eA x) (.int .i64 (QF x.1 x.2)):=Q7 fit (pls:=pls) (l:=[sw]) ⟨Ni ρ,trivial⟩ (.cons (Sq _) (.cons (.int _ _) .nil)) (.int _ _) (by
 obtain⟨l,i⟩:=x;simp only[]at C;have Y:=C.1;have L:Plain (PU pls [sw]) 46:=Ra (fun _=>rfl) rfl;rw[eA];simp only[];by_cases c1:i<0
 .refine P4 (M:=21) (rs:=[.tmp 4]) (L.call _) L.ice L.froz Tryz.func46 rfl rfl n1.2 rfl ?_;dsimp only[n1,PZ,Nat.reduceAdd];repeat' (first
   |(apply PO ?_;clear hK K)|apply Ry.o ?_|(apply aU (fun A j=>?_) (fun A j=>?_)<;>try(cases A;done))|(apply aH (fun z Z=>?_) (fun z Z=>?_)<;>try(cases z;done))|apply aj ?_|(apply PP fun K hK=>?_)|apply aq ?_)
  all_goals (refine⟨eI,_,P0,?_⟩;try simp only[PT])
  rw[QF,az (.inl c1)]
 by_cases c2:(l.length:Int)<=i
 .refine P4 (M:=21) (rs:=[.tmp 4]) (L.call _) L.ice L.froz Tryz.func46 rfl rfl n1.2 rfl ?_;dsimp only[n1,PZ,Nat.reduceAdd];repeat' (first
   |(apply PO ?_;clear hK K)|apply Ry.o ?_|(apply aU (fun A j=>?_) (fun A j=>?_)<;>try(cases A;done))|(apply aH (fun z Z=>?_) (fun z Z=>?_)<;>try(cases z;done))|apply aj ?_|(apply PP fun K hK=>?_)|apply aq ?_)
  all_goals (refine⟨eI,_,P0,?_⟩;try simp only[PT])
  rw[QF,az (.inr c2)]
 obtain⟨m,rfl⟩:=cX (qa.1 c1);have J:m<l.length:=aa;have I:IntKind.wrap .i64 ((m:Int)+1)=((m+1:Nat):Int):=Rr aa aa;have V:=z9 l (m+1) aa;have U:(l.take (m+1)).length=m+1:=nl;have O:(Qb (l.take (m+1)) (m+1))[m]?=some (QF l m):=by
  rw[QF,af aa,cY,cN,a1 kq];rfl
 refine P4 (M:=21) (rs:=[.tmp 4]) (L.call _) L.ice L.froz Tryz.func46 rfl rfl n1.2 rfl ?_;dsimp only[n1,PZ,Nat.reduceAdd];repeat' (first
  |(apply PO ?_;clear hK K)|apply Ry.o ?_|(apply bD ?_;first|refine Rx.k (Nj (fun _=>rfl) _ (C.take _) _) ?_)|(apply aU (fun A j=>?_) (fun A j=>?_)<;>try(cases A;done))|(apply aH (fun z Z=>?_) (fun z Z=>?_)<;>try(cases z;done))|apply aj ?_|(apply PP fun K hK=>?_)|apply PR ?_|apply aq ?_)
 all_goals (refine⟨eI,_,P0,?_⟩;try simp only[PT]))
end
section
def tyI4.tyF:=ac @dr (ac @cZ (ac @pO (ac @dK (ac @ey (ac @ez (ac @uU (@jU)))))))
open tyI4
noncomputable def sy:{c:SC // aB 65 (Tryz.f47.body.getD .skip)=c}:=by
 refine⟨?_,?_⟩;rotate_left
 .simp only[Tryz.f47,bh,aB,Qh,Qe,Qm,Qn,Nat.blt,Nat.ble];rfl
theorem lC{r n m:Nat}(V:m<n):Qt Tryz.prog 121 (.sl r 0 n 1) (.int .i64 (m:Int))=some (.ptr r m):=by rw[mh Tryz.underlying121 r0 V];simp
theorem qb{H:Hp}{r imm m:Nat}{bs:List Bool}(A:H.get r=some (.cells (bs.map .bool) imm true))(V:m<bs.length):Ru Tryz.prog H 4 (.ptr r m)=some (.bool (bs.getD m false)):=by
 rw[j3 Tryz.underlying4 rfl A,dY,cN,a1 V];rfl
theorem sA{H:Hp}{r m:Nat}{bs:List Bool}(A:H.get r=some (.cells (bs.map .bool) 0 true))(V:m<bs.length)(b:Bool):RT Tryz.prog H 4 (.ptr r m) (.bool b)=some (H.set r (.cells ((bs.set m b).map .bool) 0 true)):=by
 rw[MA A (by rw[cS];exact V),lq]
noncomputable def oa:En:=⟨46,true,bG (fun x=>QY x.1) eA fun x=>.int .i64 (QF x.1 x.2)⟩
theorem Aa(ρ:Nat->Int):QM Tryz.prog ρ oa:=QP fun x C=>Nk ρ x C
theorem Ac{tb:List En}(o:∀C,QT tb 46 C=oa.sp C)(l:List Nd)(i:Int)(I:QY l)(H:Hp):P2 Tryz.prog (PU pls tb) 46 [Qz l,.int .i64 i] H fun v H'=>v=.int .i64 (QF l i)/\H'=H:=
 Q0 (enc:=eA) (ok:=fun x=>QY x.1) (out:=fun x=>.int .i64 (QF x.1 x.2)) n9 (x:=(l,i)) (o _) I
structure DepJ (l:List Nd) (m k:Nat) (b:List Bool):Prop where
 ok:MarkOk l m k b
 eq:pF l k b=el l m
theorem DepJ.start{l:List Nd}{m:Nat}(h:QF l m≠0):DepJ l m (m+1) ((List.replicate (m+1) false).set m true):=⟨x6 h,rfl⟩
theorem DepJ.step{l:List Nd}{m k:Nat}{b:List Bool}(h:DepJ l m (k+1) b)(j:k<=m):DepJ l m k (if b.getD k false=true then gw (match l[k]? with|some n=>n.kids|none=>[]) b else b):=⟨h.ok.step j,h.eq⟩
theorem DepJ.done{l:List Nd}{m:Nat}{b:List Bool}(h:DepJ l m 0 b):b=el l m:=h.eq
theorem Ad(i:List Int)(k:Int)(b:List Bool):gw (i++[k]) b=(gw i b).set k.toNat true:=by simp[gw,List.foldl_append]
def iP(b:List Bool)(i:Nat):List Int:=((List.range i).filter fun j=>b.getD j false).map fun(j:Nat)=>(j:Int)
theorem Ae(b:List Bool)(i:Nat):iP b (i+1)=if b.getD i false=true then iP b i++[(i:Int)]else iP b i:=by
 unfold iP;rw[List.range_succ,List.filter_append,pn];cases h:b.getD i false
 .rw[List.filter_cons_of_neg (by rw[h];simp)];simp
 .rw[List.filter_cons_of_pos (by rw[h])];simp
theorem Af(b:List Bool)(i:Nat):(iP b i).length<=i:=by
 unfold iP;rw[cS];exact ea (vq _ _) aA
set_option maxRecDepth 100000 in
theorem Nl(ρ:Nat->Int)(x:List Nd×Int)(hx:QY x.1):aX Tryz.prog ρ 47 (eA x) (Qg (Rg x.1 x.2)):=rX (n:=3) (SY (r:=lw (Rg x.1 x.2)) (m:=3) (cfg:=PU pls [oa]) fit (gL ρ) (dG.look ⟨Aa ρ,trivial⟩) (.cons (Sq _) (.cons (.int _ _) .nil)) (by
 obtain⟨l,i⟩:=x;simp only[]at hx;have hx1:=hx.1;have hw:Plain (PU pls [oa]) 47:=Ra (fun _=>rfl) rfl;have hkeep:(PU pls [oa]).keep 47=false:=rfl;rw[eA];simp only[];by_cases c0:QF l i=0
 .refine P4 (M:=65) (rs:=[.tmp 4]) (hw.call _) hw.ice hw.froz Tryz.func47 rfl rfl sy.2 rfl ?_;dsimp only[sy,PZ,Nat.reduceAdd];repeat' (first
   |(apply PO ?_;clear hK K)|apply Ry.o ?_|(apply bD ?_;first|refine Rx.k (Ac (fun _=>rfl) _ _ hx _) ?_)|(apply aH (fun z Z=>?_) (fun z Z=>?_)<;>try(cases z;done))|apply aj ?_|(apply PP fun K hK=>?_)|apply aq ?_|fail)
  all_goals (refine⟨eI,_,P0,?_⟩;try simp only[PT])
  rw[Rg,az c0];rfl
 have hr:0<=i/\i<l.length:=by
  unfold QF at c0;by_cases c:i<0\/(l.length:Int)<=i
  .rw[az c]at c0;exact absurd rfl c0
  .omega
 obtain⟨m,rfl⟩:=cX hr.1;have hm:m<l.length:=aa;clear hr;have e1:IntKind.wrap .i64 ((m:Int)+1)=((m+1:Nat):Int):=Rr aa aa;have hmk:∀H:Hp,RK Tryz.prog H 121 (.int .i64 ((m+1:Nat):Int)) (.int .i64 ((m+1:Nat):Int))=some (.sl H.next 0 (m+1) 1,H.alloc (.cells ((List.replicate (m+1) false).map .bool) 0 true)):=fun H=>zx _ aa;have hixm:Qt Tryz.prog 121 (.sl 0 0 (m+1) 1) (.int .i64 (m:Int))=some (.ptr 0 m):=lC aa;refine P4 (M:=65) (rs:=[.tmp 4]) (hw.call _) hw.ice hw.froz Tryz.func47 rfl rfl sy.2 rfl ?_;dsimp only[sy,PZ,Nat.reduceAdd];repeat' (first
  |(apply PO ?_;clear hK K)|apply Ry.o ?_|(apply bD ?_;first|refine Rx.k (Ac (fun _=>rfl) _ _ hx _) ?_)|(apply aH (fun z Z=>?_) (fun z Z=>?_)<;>try(cases z;done))|apply aj ?_|(apply PP fun K hK=>?_)|apply PR ?_|fail)
 refine jD eV eV (sA (bs:=List.replicate (m+1) false) sn aA true) ?_;repeat' (first
  |(apply PO ?_;clear hK K)|apply Rx.o ?_|apply aj ?_|(apply PP fun K hK=>?_)|apply ay ?_|fail)
 refine uK [0,4,5] [] (fun k E H=>k<=m+1/\E.at 7=.int .i64 ((k:Int)-1)/\∃(b:List Bool) (c:Nat),H.get 0=some (.cells (b.map .bool) 0 true)/\DepJ l m k b/\E.at 6=.int .i64 c/\c+k<=m+1) (m+1) ⟨aC _,zV,_,0,by rw[a9,az gz],DepJ.start c0,eE,aa⟩ ?_;rintro k E2 H2 V I Y ⟨hk,k7,b,c,F,A,k6,hck⟩;(try simp only[QK,Qs,a7,P7,Qy,Nat.reduceBEq, *]at V);have hn0:=Y;have hn1:1<=H2.next:=Y
 clear Y;cases k with
 |zero=>
  have k7':E2.at 7=.int .i64 (-1):=k7;clear k7;have hmi:∀H:Hp,RK Tryz.prog H 23 (.int .i64 0) (.int .i64 c)=some (.sl H.next 0 0 1,H.alloc (.cells [] 0 true)):=fun H=>zw 0 c (ca _) aa;have hbe:=A.done;have hbl:=A.ok.len;clear A;repeat' (first
   |(apply PO ?_;clear hK K)|apply Ry.o ?_|(apply aH (fun z Z=>?_) (fun z Z=>?_)<;>try(cases z;done))|apply aj ?_|(apply PP fun K hK=>?_)|apply ay ?_|apply PX ?_)
  subst hbe;have hds:Rg l m=iP (el l m) (m+1):=by rw[pI,af c0];rfl
  refine Rk [4,5,51] [] 52 (m+1) (fun i E H=>∃v,E.at 10=v/\dx H v (iP (el l m) i) 1/\H.get 0=some (.cells ((el l m).map .bool) 0 true)) eE ⟨.sl H2.next 0 0 1,eE,⟨H2.next,0,rfl,ga,ca _,hn1,dh _⟩,by rw[P8,af aa];exact F⟩ ?_;rintro i E3 H3 hi V I Y hsI ⟨v,k10,hv,o⟩;(try simp only[QK,Qs,a7,P7,Qy,Nat.reduceBEq, *]at V);(try simp only[Qs,Qy, *]at I);(try simp only[QA,]at Y);repeat' (first
   |(apply PO ?_;clear hK K)|apply Rx.o ?_|(apply a6 (fun z Z=>?_) (fun z Z=>?_)<;>try(cases z;done))|apply aj ?_|(apply PP fun K hK=>?_)|apply ay ?_|apply PR ?_|apply aq ?_|apply PX ?_)
  .have C:i<m+1:=by have:=ku z;omega
   have hix:Qt Tryz.prog 121 (.sl 0 0 (m+1) 1) (.int .i64 (i:Int))=some (.ptr 0 i):=lC C;have O:=qb o (m:=i) aa;have J:=Ae (el l m) i;have hol:=Af (el l m) i;cases L:(el l m).getD i false with
   |false=>
    rw[L]at O J;rw[af aA]at J;repeat' (first
     |(apply PO ?_;clear hK K)|apply Ry.o ?_|(apply aH (fun z Z=>?_) (fun z Z=>?_)<;>try(cases z;done))|(apply PP fun K hK=>?_)|apply PR ?_|fail)
    refine⟨aa,P1,P1,QN,so,?_⟩;exact⟨v,eE,by rw[J];exact hv,o⟩
   |true=>
    rw[L]at O J;rw[az rfl]at J;repeat' (first
     |(apply PO ?_;clear hK K)|apply Ry.o ?_|(apply aH (fun z Z=>?_) (fun z Z=>?_)<;>try(cases z;done))|(apply PP fun K hK=>?_)|fail)
    have hvb:QL (H3.alloc (.cells [.int .i64 i] 0 true)) v (iP (el l m) i) 1:=.inr (hv.keep (dD _) fun k hk=>by rw[P8,af (by have:=(hv.lt hk).2;omega)]);obtain⟨v5,H5,a5,s5,n5,f5,o5⟩:=SM (r:=H3.next) (imm:=0) (i:Int) hvb lz eX aa;have n5':H3.next<=H5.next:=kH
    have g50:H5.get 0=some (.cells ((el l m).map .bool) 0 true):=by rw[f5 0 aa,P8,af aa];exact o
    clear n5 f5 o5;refine mg eV eV (by rw[hkeep];exact a5) ?_;repeat' (first
     |(apply PO ?_;clear hK K)|apply Rx.o ?_|(apply PP fun K hK=>?_)|fail)
    refine⟨aa,P1,P1,QN,so,?_⟩;exact⟨v5,eE,nZ,g50⟩
  .have hie:i=m+1:=by have:=of_decide_eq_false z;omega
   repeat' (first
    |(apply PO ?_;clear hK K)|fail)
   all_goals (refine⟨eI,_,P0,?_⟩;try simp only[PT])
   rw[hds,lw,af (by
    intro e;have h2:=(pH c0).top;have:(m:Int)∈Rg l m:=rO.2 ⟨c0,m,rfl,h2⟩;rw[hds,e]at this;simp at this),<-hie]
   exact hv.iceV 1
 |succ q=>
  have k7':E2.at 7=.int .i64 (q:Int):=by rw[k7];congr 1;omega
  clear k7;have hbl:=A.ok.len;have hix:Qt Tryz.prog 121 (.sl 0 0 (m+1) 1) (.int .i64 (q:Int))=some (.ptr 0 q):=lC aa;have O:=qb F (m:=q) aa;have hqn:(0:Int)<=q:=aa;have hql:q<l.length:=aa;have hgx:l[q]?=some l[q]:=a1 hql;have U:=A.step aa;have e2:IntKind.wrap .i64 ((q:Int)-1)=(q:Int)-1:=Rr aa aa;have e3:IntKind.wrap .i64 ((c:Int)+1)=((c+1:Nat):Int):=Rr aa aa;rw[hgx]at U;simp only[]at U;cases L:b.getD q false with
  |false=>
   rw[L]at O U;rw[af aA]at U;repeat' (first
    |(apply PO ?_;clear hK K)|apply Ry.o ?_|(apply aH (fun z Z=>?_) (fun z Z=>?_)<;>try(cases z;done))|apply aj ?_|(apply PP fun K hK=>?_)|apply ay ?_|apply PR ?_|apply PX ?_)
   refine⟨P1,P1,hn0,q,aa,aa,eE,b,c,F,U,eE,aa⟩
  |true=>
   rw[L]at O U;rw[az rfl]at U;have hkd:∀d∈l[q].kids,0<=d/\d<q/\QF l d≠0:=rN hgx (A.ok.wf q L).2;have hnk:=hx.2 _ (e9 hql);clear A;generalize l[q]=n at *;repeat' (first
    |(apply PO ?_;clear hK K)|apply Ry.o ?_|(apply aH (fun z Z=>?_) (fun z Z=>?_)<;>try(cases z;done))|apply aj ?_|(apply PP fun K hK=>?_)|apply ay ?_|apply PR ?_|fail)
   refine Rk [0,4,5,6,7,38,39] [] 40 n.kids.length (fun j E H=>H.get 0=some (.cells ((gw (n.kids.take j) b).map .bool) 0 true)) eE F ?_;rintro j E3 H3 hj V I Y hsI g;(try simp only[QK,Qs,a7,P7,Qy,Nat.reduceBEq, *]at V);(try simp only[Qs, *]at I);(try simp only[QA,QZ,Re,bZ,Nat.reduceAdd]at Y);repeat' (first
    |(apply PO ?_;clear hK K)|apply Rx.o ?_|(apply a6 (fun z Z=>?_) (fun z Z=>?_)<;>try(cases z;done))|apply aj ?_|(apply PP fun K hK=>?_)|apply ay ?_|apply PR ?_|apply PX ?_)
   .have C:j<n.kids.length:=by simpa using z
    have hgy:n.kids[j]?=some n.kids[j]:=a1 C;obtain⟨d0,d1,d2⟩:=hkd _ (e9 C);have htk:n.kids.take (j+1)=n.kids.take j++[n.kids[j]]:=by rw[qT,hgy];rfl
    generalize n.kids[j]=kd at *;obtain⟨d,rfl⟩:=cX d0;have hix2:Qt Tryz.prog 121 (.sl 0 0 (m+1) 1) (.int .i64 (d:Int))=some (.ptr 0 d):=lC aa;repeat' (first
     |(apply PO ?_;clear hK K)|apply Rx.o ?_|(apply PP fun K hK=>?_)|fail)
    refine jD eV eV (sA g (by rw[pG];omega) true) ?_;repeat' (first
     |(apply PO ?_;clear hK K)|apply Rx.o ?_|(apply PP fun K hK=>?_)|fail)
    refine⟨aa,P1,P1,QN,p9,?_⟩;rw[a9,az rfl,htk,Ad,cY]
   .have hje:j=n.kids.length:=by simp at z;omega
    rw[hje,tH]at g;repeat' (first
     |(apply PO ?_;clear hK K)|fail)
    refine⟨P1,P1,ea hn0 Y,q,aa,aa,eE,_,c+1,g,U,eE,aa⟩)) (u6 1 _)
end
section
def tyVeV.tyF:=ac @dr (ac @cZ (ac @dK (ac @ey (ac @ez (@pP)))))
open tyVeV
noncomputable def sB:{c:SC // aB 153 (Tryz.f24.body.getD .skip)=c}:=by
 refine⟨?_,?_⟩;rotate_left
 .simp only[Tryz.f24,bh,aB,Qh,Qe,Qm,Qn,Nat.blt,Nat.ble];rfl
theorem Ag{H:Hp}(n:Nat)(Z:n<2^40):RK Tryz.prog H 33 (.int .i64 n) (.int .i64 n)=some (.sl H.next 0 n 1,H.alloc (.cells ((List.replicate n (0:Int)).map (.int .i64)) 0 true)):=by
 have V:Rd=70368744177664:=rfl;show RK Tryz.prog H 33 (.int .i64 (Int.ofNat n)) (.int .i64 (Int.ofNat n))=_;simp only[RK,Tryz.underlying33,uO,yp,yq];rw[az ⟨aC _,l0,l0,rfl⟩,zu]
theorem Ah{H:Hp}{r o:Nat}{M:List Int}(A:H.get r=some (.cells (M.map (.int .i64)) 0 true))(U:o<M.length)(n:Int):RT Tryz.prog H 2 (.ptr r o) (.int .i64 n)=some (H.set r (.cells ((M.set o n).map (.int .i64)) 0 true)):=by
 rw[rK,A,uO,rJ,Ab.cells_int,splice_one _ (by rw[cS];exact U),az ⟨rfl,ca _,by rw[cS];exact U,rfl⟩,lq]
noncomputable def Ai:En:=⟨47,true,bG (fun x=>QY x.1) eA fun x=>Qg (Rg x.1 x.2)⟩
theorem Nm(ρ:Nat->Int):QM Tryz.prog ρ Ai:=QP fun x C=>Nl ρ x C
structure VlX where
 l:List Nd
 i:Int
 a:List Int
def jd(x:VlX):List AV:=[Qz x.l,.int .i64 x.i,Qg x.a]
theorem Aj(x y:VlX)(h:jd x=jd y):x=y:=by
 obtain⟨a,b,c⟩:=x;obtain⟨m,K,j⟩:=y;simp only[jd,dz,AV.int.injEq,a7,fJ]at h;rw[mI h.1,h.2.1,mG h.2.2]
def je(x:VlX):AV:=.tup [.int .i64 ((jI x.l x.i x.a).getD 0),.bool (jI x.l x.i x.a).isSome]
def oc(x:VlX):Prop:=QY x.l/\x.a.length<2^63
noncomputable def od:List En:=[oa,Ai,u4,u5]
theorem Nn(ρ:Nat->Int):dG Tryz.prog ρ od:=⟨Aa ρ,Nm ρ,Mk ρ,Ml ρ,trivial⟩
theorem og{M:List Int}{a:Nat}(h:a<M.length):M[a]?=some (M.getD a 0):=by rw[cN,a1 h];rfl
set_option maxRecDepth 100000 in
theorem No(ρ:Nat->Int)(x:VlX)(hx:oc x):aX Tryz.prog ρ 24 (jd x) (je x):=Q7 fit (pls:=pls) (Nn ρ) (.cons (Sq _) (.cons (.int _ _) (.cons (Sv _) .nil))) (.tup (.cons (.int _ _) (.cons (.bool _) .nil))) (by
 obtain⟨l,i,Y⟩:=x;obtain⟨hx,ha⟩:=hx;simp only[]at hx ha;have hl1:=hx.1;have hw:Plain (PU pls od) 24:=Ra (fun _=>rfl) rfl;have kso:∀H,P2 Tryz.prog (PU pls od) 46 [Qz l,.int .i64 i] H fun v H'=>v=.int .i64 (QF l i)/\H'=H:=fun H=>Q0 (enc:=eA) (ok:=fun x=>QY x.1) (out:=fun x=>.int .i64 (QF x.1 x.2)) n9 (x:=(l,i)) rfl hx;have kde:∀H,P2 Tryz.prog (PU pls od) 47 [Qz l,.int .i64 i] H fun v H'=>v=Qg (Rg l i)/\H'=H:=fun H=>Q0 (enc:=eA) (ok:=fun x=>QY x.1) (out:=fun x=>Qg (Rg x.1 x.2)) n9 (x:=(l,i)) rfl hx;have kun:∀C a H,P2 Tryz.prog (PU pls od) 48 [.int .i64 C,.int .i64 a] H fun v H'=>v=.int .i64 (fL C a)/\H'=H:=fun C a H=>Q0 (enc:=kE) (ok:=fun _=>True) (out:=fun x=>.int .i64 (fL x.1 x.2)) zi (x:=(C,a)) rfl trivial;have kbi:∀C a b H,P2 Tryz.prog (PU pls od) 49 [.int .i64 C,.int .i64 a,.int .i64 b] H fun v H'=>v=.int .i64 (gx C a b)/\H'=H:=fun C a b H=>Q0 (enc:=kF) (ok:=fun _=>True) (out:=fun x=>.int .i64 (gx x.1 x.2.1 x.2.2)) zj (x:=(C,a,b)) rfl trivial;rw[jd,je];simp only[];by_cases c0:QF l i=1
 .obtain⟨i0,i1⟩:=uF (l:=l) (i:=i) aa;obtain⟨m,rfl⟩:=cX i0;have hval:jI l m Y=(iH l Y (Rg l m) (List.replicate (m+1) 0)).map fun v=>v.getD m 0:=by rw[jI,az c0,cY]
  rw[hval];have hdk:=fun k=>yb (l:=l) (i:=m) (k:=k);have hdp:=fun k=>rP (l:=l) (i:=m) (x:=k);have hdl:(Rg l m).length<2^40:=by
   have:(Rg l m).length<=m+1:=by
    rw[pI];split
    .simp
    .rw[cS];exact ea (vq _ _) aA
   omega
  have e1:IntKind.wrap .i64 ((m:Int)+1)=((m+1:Nat):Int):=Rr aa aa;have hmk:=fun H=>Ag (H:=H) (m+1) aa;clear hval;generalize Rg l m=D at *;obtain⟨R,hR⟩:∃R,R=iH l Y D (List.replicate (m+1) 0):=⟨_,rfl⟩;rw[<-hR];refine P4 (M:=153) (rs:=[.tmp 6,.tmp 7]) (hw.call _) hw.ice hw.froz Tryz.func24 rfl rfl sB.2 rfl ?_;dsimp only[sB,PZ,Nat.reduceAdd];repeat' (first
   |(apply PO ?_;clear hK K)|apply Ry.o ?_|apply bC ?_|(apply bD ?_;first|refine Rx.k (kso _) ?_|refine Rx.k (kde _) ?_)|(apply aU (fun U Z=>?_) (fun U Z=>?_)<;>try(cases U;done))|(apply aH (fun z V=>?_) (fun z V=>?_)<;>try(cases z;done))|apply aj ?_|(apply PP fun K hK=>?_)|(apply PQ 14 [(3,11),(6,11),(8,11),(10,11)] fun K hK=>?_)|(apply PQ 16 [(3,18),(6,18),(8,18),(10,18),(13,18),(15,18),(17,18)] fun K hK=>?_)|(apply P5 ?_;try intro _)|(apply P6 ?_ ?_<;>clear hK K)|apply aS ?_|apply P9 rfl ?_|apply ay ?_|apply PR ?_|apply aq ?_|apply PX ?_)
  refine Rk [0,1,2,8,21,22] [] 23 D.length (fun j E H=>∃vv,H.get 0=some (.cells (vv.map (.int .i64)) 0 true)/\vv.length=m+1/\iH l Y (D.drop j) vv=R) eE ⟨List.replicate (m+1) 0,rfl,pS,hR.symm⟩ ?_;rintro j E H2 hj hcE hrH hnH hsI ⟨vv,g0,g,J⟩;(try simp only[QK,Qs,a7,P7,Qy,Nat.reduceBEq,Nat.reduceAdd,Nat.reduceLeDiff,tyF, *]at hcE);(try simp only[QK,Qs,a7,P7,Qy,Nat.reduceBEq,Nat.reduceAdd,Nat.reduceLeDiff,tyF, *]at hrH);(try simp only[QA,QZ,Re,bZ,Nat.reduceAdd]at hnH);have hB0:(0 == H2.next)=false:=Rw aa;have hC0:(H2.next == 0)=false:=Rw aa;by_cases hlt:j<D.length
  .have hlt':(j:Int)<D.length:=by omega
   have hgd:D[j]?=some D[j]:=a1 hlt;obtain⟨n,hn,hok⟩:=hdk _ (e9 hlt);obtain⟨_,hd0,hdm⟩:=hdp _ (e9 hlt);rw[jb hlt,iH,hn,gb]at J;clear hdk hdp;generalize D[j]=d at *;obtain⟨d,rfl⟩:=cX hd0;rw[cY]at hn J;have hdl2:d<l.length:=(cG.1 hn).1;have hdv:d<m+1:=aa;have hdv':d<vv.length:=aa;have hn':(l.map Nd.cells)[d]?=some n.cells:=by rw[dY,hn];rfl
   obtain⟨C,imm,A⟩:=n;have hpos:0<H2.next:=by have:=hnH;omega
   have hst:∀(O L:HB) (x:Int),RT Tryz.prog ((H2.alloc O).set H2.next L) 2 (.ptr 0 d) (.int .i64 x)=some (((H2.alloc O).set H2.next L).set 0 (.cells ((vv.set d x).map (.int .i64)) 0 true)):=fun O L x=>Ah sq hdv' x;have o:∀(O L:HB) (x:Int),(((H2.alloc O).set H2.next L).set 0 (.cells ((vv.set d x).map (.int .i64)) 0 true)).get 0=some (.cells ((vv.set d x).map (.int .i64)) 0 true):=fun O L x=>dQ;have hld:∀(O L:HB) (a:Nat),a<m+1->Ru Tryz.prog ((H2.alloc O).set H2.next L) 2 (.ptr 0 a)=some (.int .i64 (vv.getD a 0)):=fun O L a ha=>by
    rw[j3 Tryz.underlying2 rfl (cs:=vv.map (.int .i64)) (imm:=0) (tip:=true) sq,dY,og aa];rfl
   have hkk:∀q,(hq:q<A.length)->∃a:Nat,A[q]?=some (a:Int)/\a<m+1/\jH vv ⟨C,imm,A⟩ q=vv.getD a 0:=fun q hq=>by
    have hq2:=a1 hq;have hq3:=hok.kids _ (e9 hq);generalize A[q]=c at *;obtain⟨a,rfl⟩:=cX hq3.1;refine⟨a,hq2,aa,?_⟩;rw[jH];simp only[cN,hq2,bh,cY]
   clear hnH hdl2 hn';by_cases c1:C=1
   .have F:dd Y vv ⟨C,imm,A⟩=some imm:=by rw[dd,az c1]
    rw[F,gb]at J;repeat' (first
     |(apply PO ?_;clear hK K)|apply Ry.o ?_|apply bC ?_|(apply aU (fun U Z=>?_) (fun U Z=>?_)<;>try(cases U;done))|(apply aH (fun z V=>?_) (fun z V=>?_)<;>try(cases z;done))|apply aj ?_|(apply PP fun K hK=>?_)|(apply PQ 14 [(3,11),(6,11),(8,11),(10,11)] fun K hK=>?_)|(apply PQ 16 [(3,18),(6,18),(8,18),(10,18),(13,18),(15,18),(17,18)] fun K hK=>?_)|(apply P5 ?_;try intro _)|(apply P6 ?_ ?_<;>clear hK K)|apply aS ?_|apply P9 rfl ?_|apply ay ?_|apply PR ?_|apply aq ?_|apply PX ?_)
    refine⟨aa,P1,P1,QN,gZ,?_⟩;exact⟨_,o _ _ _,gY,J⟩
   by_cases c2:C=2
   .by_cases c3:imm<Y.length
    .have himm:0<=imm:=hok.p c2;have F:dd Y vv ⟨C,imm,A⟩=some (Y.getD imm.toNat 0):=by rw[dd,af c1,az ⟨c2,c3⟩]
     rw[F,gb]at J;obtain⟨q,rfl⟩:=cX himm;rw[cY]at J;have hga:Y[q]?=some (Y.getD q 0):=og aa;generalize Y.getD q 0=y at *;repeat' (first
      |(apply PO ?_;clear hK K)|apply Ry.o ?_|apply bC ?_|(apply aU (fun U Z=>?_) (fun U Z=>?_)<;>try(cases U;done))|(apply aH (fun z V=>?_) (fun z V=>?_)<;>try(cases z;done))|apply aj ?_|(apply PP fun K hK=>?_)|(apply PQ 14 [(3,11),(6,11),(8,11),(10,11)] fun K hK=>?_)|(apply PQ 16 [(3,18),(6,18),(8,18),(10,18),(13,18),(15,18),(17,18)] fun K hK=>?_)|(apply P5 ?_;try intro _)|(apply P6 ?_ ?_<;>clear hK K)|apply aS ?_|apply P9 rfl ?_|apply ay ?_|apply PR ?_|apply aq ?_|apply PX ?_)
     refine⟨aa,P1,P1,QN,gZ,?_⟩;exact⟨_,o _ _ _,gY,J⟩
    .have F:dd Y vv ⟨C,imm,A⟩=none:=by rw[dd,af c1,af (fun h=>c3 h.2),af fN,af fN,af fN]
     rw[F,sr]at J;repeat' (first
      |(apply PO ?_;clear hK K)|apply Ry.o ?_|apply bC ?_|(apply aU (fun U Z=>?_) (fun U Z=>?_)<;>try(cases U;done))|(apply aH (fun z V=>?_) (fun z V=>?_)<;>try(cases z;done))|apply aj ?_|(apply PP fun K hK=>?_)|(apply PQ 14 [(3,11),(6,11),(8,11),(10,11)] fun K hK=>?_)|(apply PQ 16 [(3,18),(6,18),(8,18),(10,18),(13,18),(15,18),(17,18)] fun K hK=>?_)|(apply P5 ?_;try intro _)|(apply P6 ?_ ?_<;>clear hK K)|apply aS ?_|apply P9 rfl ?_|apply ay ?_|apply PR ?_|apply aq ?_|apply PX ?_)
     all_goals (refine⟨eI,_,P0,?_⟩;try simp only[PT])
     rw[<-J];rfl
   by_cases c20:C=20
   .obtain⟨a,hk0,ha,I⟩:=hkk 0 zQ;have F:dd Y vv ⟨C,imm,A⟩=some (fL C (vv.getD a 0)):=zR;rw[F,gb]at J;have hla:=fun O L=>hld O L a ha;repeat' (first
     |(apply PO ?_;clear hK K)|apply Ry.o ?_|apply bC ?_|(apply bD ?_;first|refine Rx.k (kun _ _ _) ?_)|(apply aU (fun U Z=>?_) (fun U Z=>?_)<;>try(cases U;done))|(apply aH (fun z V=>?_) (fun z V=>?_)<;>try(cases z;done))|apply aj ?_|(apply PP fun K hK=>?_)|(apply PQ 14 [(3,11),(6,11),(8,11),(10,11)] fun K hK=>?_)|(apply PQ 16 [(3,18),(6,18),(8,18),(10,18),(13,18),(15,18),(17,18)] fun K hK=>?_)|(apply P5 ?_;try intro _)|(apply P6 ?_ ?_<;>clear hK K)|apply aS ?_|apply P9 rfl ?_|apply ay ?_|apply PR ?_|apply aq ?_|apply PX ?_)
    .exact eK
    refine⟨aa,P1,P1,QN,gZ,?_⟩;subst c20;exact⟨_,o _ _ _,gY,J⟩
   by_cases c21:C=21
   .obtain⟨a,hk0,ha,I⟩:=hkk 0 zS;have F:dd Y vv ⟨C,imm,A⟩=some (fL C (vv.getD a 0)):=zT;rw[F,gb]at J;have hla:=fun O L=>hld O L a ha;repeat' (first
     |(apply PO ?_;clear hK K)|apply Ry.o ?_|apply bC ?_|(apply bD ?_;first|refine Rx.k (kun _ _ _) ?_)|(apply aU (fun U Z=>?_) (fun U Z=>?_)<;>try(cases U;done))|(apply aH (fun z V=>?_) (fun z V=>?_)<;>try(cases z;done))|apply aj ?_|(apply PP fun K hK=>?_)|(apply PQ 14 [(3,11),(6,11),(8,11),(10,11)] fun K hK=>?_)|(apply PQ 16 [(3,18),(6,18),(8,18),(10,18),(13,18),(15,18),(17,18)] fun K hK=>?_)|(apply P5 ?_;try intro _)|(apply P6 ?_ ?_<;>clear hK K)|apply aS ?_|apply P9 rfl ?_|apply ay ?_|apply PR ?_|apply aq ?_|apply PX ?_)
    .exact eK
    refine⟨aa,P1,P1,QN,gZ,?_⟩;subst c21;exact⟨_,o _ _ _,gY,J⟩
   by_cases cb:4<=C/\C<=19
   .obtain⟨cb1,cb2⟩:=cb;have hk2:=hok.k2 ⟨cb1,cb2⟩;simp only[]at hk2;obtain⟨a,hk0,ha,I⟩:=hkk 0 aa;obtain⟨b,hk1,z,hkb⟩:=hkk 1 aa;have F:dd Y vv ⟨C,imm,A⟩=some (gx C (vv.getD a 0) (vv.getD b 0)):=zW;rw[F,gb]at J;have hla:=fun O L=>hld O L a ha;have hlb:=fun O L=>hld O L b z;repeat' (first
     |(apply PO ?_;clear hK K)|apply Ry.o ?_|apply bC ?_|(apply bD ?_;first|refine Rx.k (kbi _ _ _ _) ?_)|(apply aU (fun U Z=>?_) (fun U Z=>?_)<;>try(cases U;done))|(apply aH (fun z V=>?_) (fun z V=>?_)<;>try(cases z;done))|apply aj ?_|(apply PP fun K hK=>?_)|(apply PQ 14 [(3,11),(6,11),(8,11),(10,11)] fun K hK=>?_)|(apply PQ 16 [(3,18),(6,18),(8,18),(10,18),(13,18),(15,18),(17,18)] fun K hK=>?_)|(apply P5 ?_;try intro _)|(apply P6 ?_ ?_<;>clear hK K)|apply aS ?_|apply P9 rfl ?_|apply ay ?_|apply PR ?_|apply aq ?_|apply PX ?_)
    .exact eK
    refine⟨aa,P1,P1,QN,gZ,?_⟩;exact⟨_,o _ _ _,gY,J⟩
   by_cases c22:C=22
   .have hk3:=hok.k3 c22;simp only[]at hk3;obtain⟨a,hk0,ha,I⟩:=hkk 0 aa;obtain⟨b,hk1,z,hkb⟩:=hkk 1 aa;obtain⟨c,hk2,hc,hkc⟩:=hkk 2 aa;have hla:=fun O L=>hld O L a ha;have hlb:=fun O L=>hld O L b z;have hlc:=fun O L=>hld O L c hc;by_cases cz:vv.getD a 0=0
    .have F:dd Y vv ⟨C,imm,A⟩=some (vv.getD c 0):=by rw[dd,af c1,af (fun h=>c2 h.1),af fN,af fN,az c22,I,af (fun h=>h cz),hkc]
     rw[F,gb]at J;repeat' (first
      |(apply PO ?_;clear hK K)|apply Ry.o ?_|apply bC ?_|(apply aU (fun U Z=>?_) (fun U Z=>?_)<;>try(cases U;done))|(apply aH (fun z V=>?_) (fun z V=>?_)<;>try(cases z;done))|apply aj ?_|(apply PP fun K hK=>?_)|(apply PQ 14 [(3,11),(6,11),(8,11),(10,11)] fun K hK=>?_)|(apply PQ 16 [(3,18),(6,18),(8,18),(10,18),(13,18),(15,18),(17,18)] fun K hK=>?_)|(apply P5 ?_;try intro _)|(apply P6 ?_ ?_<;>clear hK K)|apply aS ?_|apply P9 rfl ?_|apply ay ?_|apply PR ?_|apply aq ?_|apply PX ?_)
     refine⟨aa,P1,P1,QN,gZ,?_⟩;exact⟨_,o _ _ _,gY,J⟩
    .have F:dd Y vv ⟨C,imm,A⟩=some (vv.getD b 0):=by rw[dd,af c1,af (fun h=>c2 h.1),af fN,af fN,az c22,I,az cz,hkb]
     rw[F,gb]at J;repeat' (first
      |(apply PO ?_;clear hK K)|apply Ry.o ?_|apply bC ?_|(apply aU (fun U Z=>?_) (fun U Z=>?_)<;>try(cases U;done))|(apply aH (fun z V=>?_) (fun z V=>?_)<;>try(cases z;done))|apply aj ?_|(apply PP fun K hK=>?_)|(apply PQ 14 [(3,11),(6,11),(8,11),(10,11)] fun K hK=>?_)|(apply PQ 16 [(3,18),(6,18),(8,18),(10,18),(13,18),(15,18),(17,18)] fun K hK=>?_)|(apply P5 ?_;try intro _)|(apply P6 ?_ ?_<;>clear hK K)|apply aS ?_|apply P9 rfl ?_|apply ay ?_|apply PR ?_|apply aq ?_|apply PX ?_)
     refine⟨aa,P1,P1,QN,gZ,?_⟩;exact⟨_,o _ _ _,gY,J⟩
   have F:dd Y vv ⟨C,imm,A⟩=none:=zX;rw[F,sr]at J;by_cases cc:4<=C
   .have cc2:¬C<=19:=fun h=>cb ⟨cc,h⟩;repeat' (first
     |(apply PO ?_;clear hK K)|apply Ry.o ?_|apply bC ?_|(apply aU (fun U Z=>?_) (fun U Z=>?_)<;>try(cases U;done))|(apply aH (fun z V=>?_) (fun z V=>?_)<;>try(cases z;done))|apply aj ?_|(apply PP fun K hK=>?_)|(apply PQ 14 [(3,11),(6,11),(8,11),(10,11)] fun K hK=>?_)|(apply PQ 16 [(3,18),(6,18),(8,18),(10,18),(13,18),(15,18),(17,18)] fun K hK=>?_)|(apply P5 ?_;try intro _)|(apply P6 ?_ ?_<;>clear hK K)|apply aS ?_|apply P9 rfl ?_|apply ay ?_|apply PR ?_|apply aq ?_|apply PX ?_)
    all_goals (refine⟨eI,_,P0,?_⟩;try simp only[PT])
    rw[<-J];rfl
   .repeat' (first
     |(apply PO ?_;clear hK K)|apply Ry.o ?_|apply bC ?_|(apply aU (fun U Z=>?_) (fun U Z=>?_)<;>try(cases U;done))|(apply aH (fun z V=>?_) (fun z V=>?_)<;>try(cases z;done))|apply aj ?_|(apply PP fun K hK=>?_)|(apply PQ 14 [(3,11),(6,11),(8,11),(10,11)] fun K hK=>?_)|(apply PQ 16 [(3,18),(6,18),(8,18),(10,18),(13,18),(15,18),(17,18)] fun K hK=>?_)|(apply P5 ?_;try intro _)|(apply P6 ?_ ?_<;>clear hK K)|apply aS ?_|apply P9 rfl ?_|apply ay ?_|apply PR ?_|apply aq ?_|apply PX ?_)
    all_goals (refine⟨eI,_,P0,?_⟩;try simp only[PT])
    rw[<-J];rfl
  .have hlt':¬(j:Int)<D.length:=by omega
   rw[List.drop_eq_nil_of_le aa,iH]at J;rw[<-J];have hla:Ru Tryz.prog H2 2 (.ptr 0 m)=some (.int .i64 (vv.getD m 0)):=by
    rw[j3 Tryz.underlying2 rfl (cs:=vv.map (.int .i64)) g0,dY,og aa];rfl
   have hmm:m<m+1:=dh m;repeat' (first
    |(apply PO ?_;clear hK K)|apply Ry.o ?_|apply bC ?_|(apply aU (fun U Z=>?_) (fun U Z=>?_)<;>try(cases U;done))|(apply aH (fun z V=>?_) (fun z V=>?_)<;>try(cases z;done))|apply aj ?_|(apply PP fun K hK=>?_)|(apply PQ 14 [(3,11),(6,11),(8,11),(10,11)] fun K hK=>?_)|(apply PQ 16 [(3,18),(6,18),(8,18),(10,18),(13,18),(15,18),(17,18)] fun K hK=>?_)|(apply P5 ?_;try intro _)|(apply P6 ?_ ?_<;>clear hK K)|apply aS ?_|apply P9 rfl ?_|apply ay ?_|apply PR ?_|apply aq ?_|apply PX ?_)
   all_goals (refine⟨eI,_,P0,?_⟩;try simp only[PT])
   rfl
 .have hval:jI l i Y=none:=by rw[jI,af c0]
  rw[hval];refine P4 (M:=153) (rs:=[.tmp 6,.tmp 7]) (hw.call _) hw.ice hw.froz Tryz.func24 rfl rfl sB.2 rfl ?_;dsimp only[sB,PZ,Nat.reduceAdd];repeat' (first
   |(apply PO ?_;clear hK K)|apply Ry.o ?_|apply bC ?_|(apply bD ?_;first|refine Rx.k (kso _) ?_)|(apply aU (fun U Z=>?_) (fun U Z=>?_)<;>try(cases U;done))|(apply aH (fun z V=>?_) (fun z V=>?_)<;>try(cases z;done))|apply aj ?_|(apply PP fun K hK=>?_)|(apply PQ 14 [(3,11),(6,11),(8,11),(10,11)] fun K hK=>?_)|(apply PQ 16 [(3,18),(6,18),(8,18),(10,18),(13,18),(15,18),(17,18)] fun K hK=>?_)|(apply P5 ?_;try intro _)|(apply P6 ?_ ?_<;>clear hK K)|apply aS ?_|apply P9 rfl ?_|apply ay ?_|apply PR ?_|apply aq ?_|apply PX ?_)
  all_goals (refine⟨eI,_,P0,?_⟩;try simp only[PT])
  rfl)
noncomputable def Ak:En:=⟨24,true,bG oc jd je⟩
theorem Np(ρ:Nat->Int):QM Tryz.prog ρ Ak:=QP fun x C=>No ρ x C
end
section
def tyK1.tyF:=ac @cZ (ac @dr (@dK))
open tyK1
noncomputable def Al:{c:SC // aB 67 (Tryz.f41.body.getD .skip)=c}:=by
 refine⟨?_,?_⟩;rotate_left
 .simp only[Tryz.f41,bh,aB,Qh,Qe,Qm,Qn,Nat.blt,Nat.ble];rfl
noncomputable def Am:{c:SC // aB 19 (Tryz.f180.body.getD .skip)=c}:=by
 refine⟨?_,?_⟩;rotate_left
 .simp only[Tryz.f180,bh,aB,Qh,Qe,Qm,Qn,Nat.blt,Nat.ble];rfl
noncomputable def An:{c:SC // aB 29 (Tryz.f144.body.getD .skip)=c}:=by
 refine⟨?_,?_⟩;rotate_left
 .simp only[Tryz.f144,bh,aB,Qh,Qe,Qm,Qn,Nat.blt,Nat.ble];rfl
noncomputable def Ao:{c:SC // aB 7 (Tryz.f145.body.getD .skip)=c}:=by
 refine⟨?_,?_⟩;rotate_left
 .simp only[Tryz.f145,bh,aB,Qh,Qe,Qm,Qn,Nat.blt,Nat.ble];rfl
noncomputable def Ap:{c:SC // aB 15 (Tryz.f146.body.getD .skip)=c}:=by
 refine⟨?_,?_⟩;rotate_left
 .simp only[Tryz.f146,bh,aB,Qh,Qe,Qm,Qn,Nat.blt,Nat.ble];rfl
theorem Nq(ρ:Nat->Int)(op:Int):aX Tryz.prog ρ 41 [.int .i64 op] (cU op):=Q7 fit (pls:=pls) (l:=[]) trivial (.cons (.int _ _) .nil) (zG op) (by
 have L:=RO 41;refine P4 (M:=67) (rs:=[.tmp 2,.tmp 3]) (L.call _) L.ice L.froz Tryz.func41 rfl rfl Al.2 rfl ?_;dsimp only[Al,PZ,Nat.reduceAdd];repeat' (first
  |(apply PO ?_;clear hK K)|apply Rx.o ?_|(apply cK (fun A j=>?_) (fun A j=>?_)<;>try(cases A;done))|(apply a6 (fun z i=>?_) (fun z i=>?_)<;>try(cases z;done))|apply aj ?_|(apply PP fun K hK=>?_)|apply ay ?_|apply PR ?_|apply aq ?_)
 all_goals
  refine⟨eI,_,da,?_⟩;try simp only[PT]
  unfold cU aM;first
  |(rw[az aa];done)
  |(rw[af aa,az aa];done)
  |(rw[af aa,af aa,az aa];done)
  |(rw[af aa,af aa,af aa,az aa];done)
  |(rw[af aa,af aa,af aa,af aa,az aa];done)
  |(rw[af aa,af aa,af aa,af aa,af aa,az aa];done)
  |(rw[af aa,af aa,af aa,af aa,af aa,af aa];done))
theorem Nr(ρ:Nat->Int)(op:Int):aX Tryz.prog ρ 180 [.int .i64 op] (.int .i64 (QX op)):=Q7 fit (pls:=pls) (l:=[]) trivial (.cons (.int _ _) .nil) (.int _ _) (by
 have L:=RO 180;refine P4 (M:=19) (rs:=[.tmp 2]) (L.call _) L.ice L.froz Tryz.func180 rfl rfl Am.2 rfl ?_;dsimp only[Am,PZ,Nat.reduceAdd];repeat' (first
  |(apply PO ?_;clear hK K)|apply Rx.o ?_|(apply a6 (fun z i=>?_) (fun z i=>?_)<;>try(cases z;done))|apply aj ?_|(apply PP fun K hK=>?_)|apply ay ?_|apply PR ?_|apply aq ?_)
 all_goals
  refine⟨eI,_,da,?_⟩;try simp only[PT]
  simp_all[QX])
noncomputable def sC:En:=⟨180,false,bG (fun _=>True) (fun n:Int=>[.int .i64 n]) fun n=>.int .i64 (QX n)⟩
theorem Ns(ρ:Nat->Int):QM Tryz.prog ρ sC:=QP fun n _=>Nr ρ n
theorem Nt{l:List En}(I:∀C,QT l 180 C=sC.sp C)(n:Int)(H:Hp):P2 Tryz.prog (PU pls l) 180 [.int .i64 n] H fun v H'=>v=.int .i64 (QX n)/\H'=H:=
 Q0 (enc:=fun n:Int=>[.int .i64 n]) (ok:=fun _=>True) (out:=fun n=>.int .i64 (QX n)) p7 (x:=n) (I _) trivial
def jf(x:Int×Int):List AV:=[.int .i64 x.1,.int .i64 x.2]
theorem Aq(x y:Int×Int)(h:jf x=jf y):x=y:=by
 simp only[jf,dz,AV.int.injEq,a7,fJ]at h;exact iK h.1 h.2
theorem Nu(ρ:Nat->Int)(x:Int×Int):aX Tryz.prog ρ 144 (jf x) (.bool (QH x.1 x.2)):=Q7 fit (pls:=pls) (l:=[sC]) ⟨Ns ρ,trivial⟩ (.cons (.int _ _) (.cons (.int _ _) .nil)) (.bool _) (by
 obtain⟨C,n⟩:=x;have L:Plain (PU pls [sC]) 144:=Ra (fun _=>rfl) rfl;rw[jf];simp only[];refine P4 (M:=29) (rs:=[.tmp 4]) (L.call _) L.ice L.froz Tryz.func144 rfl rfl An.2 rfl ?_;dsimp only[An,PZ,Nat.reduceAdd];repeat' (first
  |(apply PO ?_;clear hK K)|apply Rx.o ?_|(apply eR ?_;first|refine Rx.k (Nt (fun _=>rfl) _ _) ?_)|apply mw ?_|(apply cK (fun A j=>?_) (fun A j=>?_)<;>try(cases A;done))|(apply a6 (fun z i=>?_) (fun z i=>?_)<;>try(cases z;done))|apply aj ?_|(apply PP fun K hK=>?_)|apply PR ?_|apply aq ?_)
 all_goals
  refine⟨eI,_,da,?_⟩;try simp only[PT]
  unfold QH;first
  |(rw[az dj];done)
  |(rw[af dj,az dj];done)
  |(rw[af dj,af aa]
    have V:¬QX C<0:=aa;first
    |(simp_all;done)
    |(generalize QX C=q at *;simp_all;done)
    |(generalize QX C=q at *;simp_all;omega)))
noncomputable def vw:En:=⟨144,false,bG (fun _=>True) jf fun x=>.bool (QH x.1 x.2)⟩
theorem Nv(ρ:Nat->Int):QM Tryz.prog ρ vw:=QP fun n _=>Nu ρ n
theorem gA{l:List En}(I:∀C,QT l 144 C=vw.sp C)(a b:Int)(H:Hp):P2 Tryz.prog (PU pls l) 144 [.int .i64 a,.int .i64 b] H fun v H'=>v=.bool (QH a b)/\H'=H:=
 Q0 (enc:=jf) (ok:=fun _=>True) (out:=fun x=>.bool (QH x.1 x.2)) Aq (x:=(a,b)) (I _) trivial
def mN(x:Bool×Int):List AV:=[.bool x.1,.int .i64 x.2]
theorem Nw(x y:Bool×Int)(h:mN x=mN y):x=y:=by
 simp only[mN,dz,AV.int.injEq,AV.bool.injEq,a7,fJ]at h;exact iK h.1 h.2
theorem Nx(ρ:Nat->Int)(x:Bool×Int):aX Tryz.prog ρ 145 (mN x) (.int .i64 (Qi x.1 x.2)):=Q7 fit (pls:=pls) (l:=[]) trivial (.cons (.bool _) (.cons (.int _ _) .nil)) (.int _ _) (by
 obtain⟨b,n⟩:=x;have L:=RO 145;rw[mN];simp only[];cases b;all_goals
  refine P4 (M:=7) (rs:=[.tmp 4]) (L.call _) L.ice L.froz Tryz.func145 rfl rfl Ao.2 rfl ?_;dsimp only[Ao,PZ,Nat.reduceAdd];repeat' (first
   |(apply PO ?_;clear hK K)|apply Rx.o ?_|(apply a6 (fun z i=>?_) (fun z i=>?_)<;>try(cases z;done))|apply aj ?_|(apply PP fun K hK=>?_)|apply PR ?_|apply aq ?_)
  refine⟨eI,_,da,?_⟩;try simp only[PT]
  rfl)
noncomputable def vx:En:=⟨145,false,bG (fun _=>True) mN fun x=>.int .i64 (Qi x.1 x.2)⟩
theorem Ny(ρ:Nat->Int):QM Tryz.prog ρ vx:=QP fun n _=>Nx ρ n
theorem ij{l:List En}(I:∀C,QT l 145 C=vx.sp C)(a:Bool)(b:Int)(H:Hp):P2 Tryz.prog (PU pls l) 145 [.bool a,.int .i64 b] H fun v H'=>v=.int .i64 (Qi a b)/\H'=H:=
 Q0 (enc:=mN) (ok:=fun _=>True) (out:=fun x=>.int .i64 (Qi x.1 x.2)) Nw (x:=(a,b)) (I _) trivial
def mO(s:List Int):List AV:=[Qg s]
theorem Nz(x y:List Int)(h:mO x=mO y):x=y:=by
 simp only[mO,dz,a7]at h;exact mG h
theorem NA(ρ:Nat->Int)(s:List Int)(C:s.length<2^60):aX Tryz.prog ρ 146 (mO s) (.bool (Qk s)):=Q7 fit (pls:=pls) (l:=[]) trivial (.cons (Sv _) .nil) (.bool _) (by
 have I:=RO 146;rw[mO];refine P4 (M:=15) (rs:=[.tmp 2]) (I.call _) I.ice I.froz Tryz.func146 rfl rfl Ap.2 rfl ?_;dsimp only[Ap,PZ,Nat.reduceAdd];repeat' (first
  |(apply PO ?_;clear hK K)|apply Rx.o ?_|(apply a6 (fun z Z=>?_) (fun z Z=>?_)<;>try(cases z;done))|apply aj ?_|(apply PP fun K hK=>?_)|apply ay ?_|apply PR ?_|apply aq ?_|apply PX ?_)
 refine Rk [0] [] 3 s.length (fun i E H=>Qk s=Qk (s.drop i)) eE aA ?_;rintro i E m A U O L g J;(try simp only[QK,Qs,a7,P7,Qy,Nat.reduceBEq,Nat.reduceAdd,Nat.reduceLeDiff,tyF, *]at U);(try simp only[QK,Qs,a7,P7,Qy,Nat.reduceBEq,Nat.reduceAdd,Nat.reduceLeDiff,tyF, *]at O);(try simp only[QA,QZ,Re,bZ,Nat.reduceAdd]at L);repeat' (first
  |(apply PO ?_;clear hK K)|apply Rx.o ?_|(apply a6 (fun z Z=>?_) (fun z Z=>?_)<;>try(cases z;done))|apply aj ?_|(apply PP fun K hK=>?_)|apply ay ?_|apply PR ?_|apply aq ?_|apply PX ?_)
 .have Y:i<s.length:=by simpa using z
  have F:s[i]?=some s[i]:=a1 Y;have V:Qk (s.drop i)=(decide (s[i]=1)&&Qk (s.drop (i+1))):=vp;repeat' (first
   |(apply PO ?_;clear hK K)|apply Rx.o ?_|(apply a6 (fun z Z=>?_) (fun z Z=>?_)<;>try(cases z;done))|apply aj ?_|(apply PP fun K hK=>?_)|apply ay ?_|apply PR ?_|apply aq ?_|apply PX ?_)
  .all_goals (refine⟨eI,_,P0,?_⟩;try simp only[PT])
   rw[J,V];(try simp only[fI,ig]at *);simp only[ *,ii,iF,kB,kp,lB,gR,ev,f0,gK,f6,cr,cC,Int.reduceEq]
  .refine⟨aa,P1,P1,QN,nR,?_⟩;rw[J,V];(try simp only[fI,ig]at *);simp only[ *,ii,iF,kB,kp,lB,gR,ev,f0,gK,f6,cr,cC,Int.reduceEq]
 .repeat' (first
   |(apply PO ?_;clear hK K)|apply Rx.o ?_|(apply a6 (fun z Z=>?_) (fun z Z=>?_)<;>try(cases z;done))|apply aj ?_|(apply PP fun K hK=>?_)|apply ay ?_|apply PR ?_|apply aq ?_|apply PX ?_)
  all_goals (refine⟨eI,_,P0,?_⟩;try simp only[PT])
  rw[J,show i=s.length by simp at z;omega,lp];rfl)
noncomputable def vy:En:=⟨146,false,bG (fun s=>s.length<2^60) mO fun s=>.bool (Qk s)⟩
theorem NB(ρ:Nat->Int):QM Tryz.prog ρ vy:=QP fun n h=>NA ρ n h
theorem sD{l:List En}(I:∀C,QT l 146 C=vy.sp C)(s:List Int)(K:s.length<2^60)(H:Hp):P2 Tryz.prog (PU pls l) 146 [Qg s] H fun v H'=>v=.bool (Qk s)/\H'=H:=
 Q0 (enc:=mO) (ok:=fun s=>s.length<2^60) (out:=fun s=>.bool (Qk s)) Nz (x:=s) (I _) K
noncomputable def sE:En:=⟨41,false,bG (fun _=>True) (fun n:Int=>[.int .i64 n]) cU⟩
theorem As(ρ:Nat->Int):QM Tryz.prog ρ sE:=QP fun n _=>Nq ρ n
theorem j6{l:List En}(I:∀C,QT l 41 C=sE.sp C)(n:Int)(H:Hp):P2 Tryz.prog (PU pls l) 41 [.int .i64 n] H fun v H'=>v=cU n/\H'=H:=
 Q0 (enc:=fun n:Int=>[.int .i64 n]) (ok:=fun _=>True) (out:=cU) p7 (x:=n) (I _) trivial
end
section
def tyK2a.tyF:=ac @dr (ac @cZ (ac @dK (ac @ey (ac @ez (ac @gW (ac @gX (@jE)))))))
open tyK2a
noncomputable def Q8:{c:SC // aB 221 (Tryz.f97.body.getD .skip)=c}:=by
 refine⟨?_,?_⟩;rotate_left
 .simp only[Tryz.f97,bh,aB,Qh,Qe,Qm,Qn,Nat.blt,Nat.ble];rfl
structure NsX where
 l:List Nd
 n:Nd
 k:List Int
def lD(x:NsX):List AV:=[Qz x.l,.agg x.n.cells,Qg x.k]
theorem NC(x y:NsX)(h:lD x=lD y):x=y:=by
 obtain⟨a,b,c⟩:=x;obtain⟨m,K,j⟩:=y;simp only[lD,dz,AV.agg.injEq,a7]at h;rw[mI h.1,nI h.2.1,mG h.2.2]
def qc(x:NsX):Prop:=x.k.length=x.n.kids.length/\x.k.length<2^30/\(x.n.op=25->x.n.kids.length=1->∃(k:Nat) (m:Nd),x.n.kids=[(k:Int)]/\x.l[k]?=some m/\m.kids.length<2^30)
noncomputable def lE:List En:=[sE,vw,vx,vy]
theorem ND(ρ:Nat->Int):dG Tryz.prog ρ lE:=⟨As ρ,Nv ρ,Ny ρ,NB ρ,trivial⟩
theorem NE{l:List Nd}{n:Nd}{k:List Int}(h:(aM n.op).2=false):Qc l n k=0:=by rw[Qc,az h]
theorem NF{l:List Nd}{n:Nd}{k:List Int}(h:(aM n.op).2=true)(g:0<=(aM n.op).1)(o:(n.kids.length:Int)≠(aM n.op).1):Qc l n k=0:=by rw[Qc,af (by rw[h];simp),az ⟨g,o⟩]
theorem NG{l:List Nd}{n:Nd}{k:List Int}(h:QH n.op n.imm=false):Qc l n k=0:=by
 rw[Qc];by_cases c1:(aM n.op).2=false
 .rw[az c1]
 .rw[af c1];by_cases c2:0<=(aM n.op).1/\(n.kids.length:Int)≠(aM n.op).1
  .rw[az c2]
  .rw[af c2,az h]
theorem NH{l:List Nd}{n:Nd}{k:List Int}(h:(aM n.op).2=true)(g:¬(0<=(aM n.op).1/\(n.kids.length:Int)≠(aM n.op).1))(o:QH n.op n.imm=true):Qc l n k =
 if n.op=3 then (if n.imm.tmod 16=0 then 2 else 1)
 else if n.op=26 then 2
 else if n.op=22 then (if k.headD 0≠1\/k.getD 1 0≠k.getD 2 0\/k.getD 1 0=3 then 0 else k.getD 1 0)
 else if n.op=23 then Qi (decide (k.headD 0=2)&&decide (k.getD 1 0=1)) 1
 else if n.op=24 then Qi (decide (k.headD 0=2)) 1
 else if n.op=25 then (if k.headD 0≠3\/(Sp l (n.kids.headD 0)).tdiv 2<=n.imm then 0 else Qi (decide (n.imm=0)) 1+1)
 else if n.op=27\/n.op=29 then Qi (decide (k.headD 0=2)&&decide (k.getD 1 0=1)) 2
 else if n.op=28 then Qi (decide (k.headD 0=2)&&decide (k.getD 1 0=1)&&decide (k.getD 2 0=1)) 2
 else if n.op=30 then Qi (decide (1<=k.length)&&decide (k.length<=7)&&decide (k.headD 0=2)&&Qk (k.drop 1)) 2
 else if n.op=31 then Qi (decide (k.length%2=1)&&decide (1<=k.length/2)&&decide (k.length/2<=16)&&decide (k.headD 0=2)&&Qk ((k.drop 1).take (k.length/2))&&decide (k.getD (k.length/2+1) 0=2)&&Qk (k.drop (k.length/2+2))) 3
 else Qi (Qk k) 1:=by
 rw[Qc,af (by rw[h];simp),af g,af (by rw[o];simp)]
theorem NI{l:List Nd}{imm:Int}{kids k:List Int}(V:k.length=kids.length)(U:k.length<2^30)(O:QH 30 imm=true)(g:Qc l ⟨30,imm,kids⟩ k=Qi (decide (1<=k.length)&&decide (k.length<=7)&&decide (k.headD 0=2)&&Qk (k.drop 1)) 2):
 P2 Tryz.prog (PU pls lE) 97 [Qz l,.agg [.int .i64 30,.int .i64 imm,Qg kids],Qg k] Qv fun v _=>v=.int .i64 (Qc l ⟨30,imm,kids⟩ k):=by
 have L:Plain (PU pls lE) 97:=Ra (fun _=>rfl) rfl;have J:(2:Int)≠0:=bA;have o:cU 30=.tup [.int .i64 (-1),.bool true]:=rfl;clear V;cases k with
 |nil=>
  have Z:Qc l ⟨30,imm,kids⟩ []=Qi false 2:=iO;refine P4 (M:=221) (rs:=[.tmp 6]) (L.call _) L.ice L.froz Tryz.func97 rfl rfl Q8.2 rfl ?_;dsimp only[Q8,PZ,Nat.reduceAdd];repeat' (first
   |(apply PO ?_;clear hK K)|apply Ry.o ?_|(apply bD ?_;first|refine Rx.k (j6 (fun _=>rfl) _ _) ?_|refine Rx.k (gA (fun _=>rfl) _ _ _) ?_|refine Rx.k (ij (fun _=>rfl) _ _ _) ?_)|(apply aU (fun A j=>?_) (fun A j=>?_)<;>try(cases A;done))|(apply aH (fun z i=>?_) (fun z i=>?_)<;>try(cases z;done))|apply aj ?_|(apply PP fun K hK=>?_)|apply ay ?_|apply PR ?_|apply aq ?_)
  all_goals first
   |exact eK
   |((refine⟨eI,_,da,?_⟩;try simp only[PT]);rw[Z];done)
 |cons a k=>
  have I:=fun a=>zN a k;simp only[em]at U;have Y:k.length<2^60:=aa;have Z:Qc l ⟨30,imm,kids⟩ (a::k)=Qi (decide (((k.length+1:Nat):Int)<=7)&&decide (a=2)&&Qk k) 2:=by
   have F:decide (((k.length+1:Nat):Int)<=7)=decide (k.length+1<=7):=pT.2 aa;rw[g,F];simp
  have C:(1:Int)<=((k.length+1:Nat):Int):=aa;refine P4 (M:=221) (rs:=[.tmp 6]) (L.call _) L.ice L.froz Tryz.func97 rfl rfl Q8.2 rfl ?_;dsimp only[Q8,PZ,Nat.reduceAdd];repeat' (first
   |(apply PO ?_;clear hK K)|apply Ry.o ?_|(apply bD ?_;first|refine Rx.k (j6 (fun _=>rfl) _ _) ?_|refine Rx.k (gA (fun _=>rfl) _ _ _) ?_|refine Rx.k (sD (fun _=>rfl) _ Y _) ?_|refine Rx.k (ij (fun _=>rfl) _ _ _) ?_)|(apply aU (fun A j=>?_) (fun A j=>?_)<;>try(cases A;done))|(apply aH (fun z i=>?_) (fun z i=>?_)<;>try(cases z;done))|apply aj ?_|(apply PP fun K hK=>?_)|apply ay ?_|apply PR ?_|apply aq ?_)
  all_goals first
   |exact eK
   |((refine⟨eI,_,da,?_⟩;try simp only[PT]);rw[Z];(try simp only[fI,ig]at *);simp only[ *,ii,iF,kB,kp,lB,gR,ev,f0,gK,f6,cr,cC,Int.reduceEq];done)
theorem NJ{l:List Nd}{imm:Int}{kids k:List Int}(L:k.length=kids.length)(F:k.length<2^30)(i:kids.length=1->∃(k:Nat) (m:Nd),kids=[(k:Int)]/\l[k]?=some m/\m.kids.length<2^30)(I:k.length=1)(C:QH 25 imm=true)(g:Qc l ⟨25,imm,kids⟩ k=(if k.headD 0≠3\/(Sp l (kids.headD 0)).tdiv 2<=imm then 0 else Qi (decide (imm=0)) 1+1)):
 P2 Tryz.prog (PU pls lE) 97 [Qz l,.agg [.int .i64 25,.int .i64 imm,Qg kids],Qg k] Qv fun v _=>v=.int .i64 (Qc l ⟨25,imm,kids⟩ k):=by
 have U:Plain (PU pls lE) 97:=Ra (fun _=>rfl) rfl;have hq2:(2:Int)≠0:=bA;obtain⟨a,rfl⟩:=iN I;have O:kids.length=1:=by rw[<-L];exact I
 obtain⟨Y,m,rfl,o,hmb⟩:=i O;have hv:cU 25=.tup [.int .i64 1,.bool true]:=rfl;have J:Sp l (Y:Int)=m.kids.length:=by rw[Sp,cY,o]
 have Z:Qc l ⟨25,imm,[(Y:Int)]⟩ [a]=if a≠3\/(m.kids.length:Int).tdiv 2<=imm then 0 else Qi (decide (imm=0)) 1+1:=by rw[g];simp[J]
 have e1:IntKind.wrap .i64 ((m.kids.length:Int).tdiv 2)=(m.kids.length:Int).tdiv 2:=by
  rw[zZ aa];exact Rr aa aa
 have hgk:([(Y:Int)]:List Int)[0]?=some (Y:Int):=rfl;have e2:IntKind.wrap .i64 (Qi (decide (imm=0)) 1+1)=Qi (decide (imm=0)) 1+1:=by
  unfold Qi;split<;>rfl
 refine P4 (M:=221) (rs:=[.tmp 6]) (U.call _) U.ice U.froz Tryz.func97 rfl rfl Q8.2 rfl ?_;dsimp only[Q8,PZ,Nat.reduceAdd];repeat' (first
  |(apply PO ?_;clear hK K)|apply Ry.o ?_|(apply bD ?_;first|refine Rx.k (j6 (fun _=>rfl) _ _) ?_|refine Rx.k (gA (fun _=>rfl) _ _ _) ?_|refine Rx.k (ij (fun _=>rfl) _ _ _) ?_)|(apply aU (fun A j=>?_) (fun A j=>?_)<;>try(cases A;done))|(apply aH (fun z V=>?_) (fun z V=>?_)<;>try(cases z;done))|apply aj ?_|(apply PP fun K hK=>?_)|(apply PQ 12 [(2,19),(7,19),(10,19),(16,19)] fun K hK=>?_)|(apply PQ 20 [(2,19),(6,19),(9,19),(11,19),(14,19),(15,19)] fun K hK=>?_)|(apply P5 ?_;try intro _)|(apply P6 ?_ ?_<;>clear hK K)|apply aS ?_|(apply Ry.gt (fun A j=>?_) (fun A j=>?_)<;>try(cases A;done))|apply ay ?_|apply PR ?_|apply aq ?_)
 clear L J g i;all_goals first
  |exact eK
  |((refine⟨eI,_,da,?_⟩;try simp only[PT]);rw[Z,az sk];done)
  |((refine⟨eI,_,da,?_⟩;try simp only[PT]);rw[Z,af sk];done)
end
section
def tyK2b.tyF:=ac @dr (ac @cZ (ac @dK (ac @ey (ac @ez (ac @gW (ac @gX (ac @pC (@jE))))))))
open tyK2b
theorem NK(s:List Int){a b:Nat}(i:a<=b)(g:b<=s.length):RD Tryz.prog 23 (.lst (s.map fun n=>[AV.int .i64 n])) (some (.int .i64 (a:Int))) (some (.int .i64 (b:Int)))=some (.lst (((s.drop a).take (b-a)).map fun n=>[AV.int .i64 n])):=by
 have Z:(a:Int)=Int.ofNat a:=rfl;have z:(b:Int)=Int.ofNat b:=rfl;simp only[RD,Tryz.underlying23,fy,Z,z,Rl];rw[az ⟨i,by rw[cS];exact g⟩,<-vr,<-tF];cases (s.drop a).take (b-a)with
 |nil=>rfl
 |cons x l=>rfl
theorem NL(s:List Int){a:Nat}(i:a<=s.length):RD Tryz.prog 23 (.lst (s.map fun n=>[AV.int .i64 n])) (some (.int .i64 (a:Int))) none=some (.lst ((s.drop a).map fun n=>[AV.int .i64 n])):=by
 have Z:(a:Int)=Int.ofNat a:=rfl;simp only[RD,Tryz.underlying23,fy,Z,Rl];rw[az ⟨by rw[cS];exact i,aC _⟩,fF aA,<-vr];cases s.drop a with
 |nil=>rfl
 |cons x l=>rfl
theorem NM{l:List Nd}{imm:Int}{kids k:List Int}(hkb:k.length<2^30)(him:QH 31 imm=true)(g:Qc l ⟨31,imm,kids⟩ k=Qi (decide (k.length%2=1)&&decide (1<=k.length/2)&&decide (k.length/2<=16)&&decide (k.headD 0=2)&&Qk ((k.drop 1).take (k.length/2))&&decide (k.getD (k.length/2+1) 0=2)&&Qk (k.drop (k.length/2+2))) 3):
 P2 Tryz.prog (PU pls lE) 97 [Qz l,.agg [.int .i64 31,.int .i64 imm,Qg kids],Qg k] Qv fun v _=>v=.int .i64 (Qc l ⟨31,imm,kids⟩ k):=by
 have L:Plain (PU pls lE) 97:=Ra (fun _=>rfl) rfl;have hq2:(2:Int)≠0:=bA;have hv:cU 31=.tup [.int .i64 (-1),.bool true]:=rfl;have e1:IntKind.wrap .i64 ((k.length:Int).tdiv 2)=((k.length/2:Nat):Int):=by
  rw[zZ aa,Rr aa aa];omega
 have O:(k.length:Int).tmod 2=((k.length%2:Nat):Int):=y0;by_cases hc:k.length%2=1/\1<=k.length/2/\k.length/2<=16
 .obtain⟨h1,U,o⟩:=hc;have e3:IntKind.wrap .i64 (((k.length/2:Nat):Int)+1)=((k.length/2+1:Nat):Int):=Rr aa aa;have e4:IntKind.wrap .i64 (((k.length/2:Nat):Int)+2)=((k.length/2+2:Nat):Int):=Rr aa aa;obtain⟨x,hx⟩:∃x,k[0]?=some x:=⟨_,a1 aa⟩;obtain⟨y,hy⟩:∃y,k[k.length/2+1]?=some y:=⟨_,a1 aa⟩;have J:k.headD 0=x:=by rw[List.headD_eq_head?_getD,List.head?_eq_getElem?,hx];rfl
  have I:k.getD (k.length/2+1) 0=y:=by rw[cN,hy];rfl
  have F:=NK k (a:=1) (b:=k.length/2+1) aa aa;have hs2:=NL k (a:=k.length/2+2) aa;have Y:((k.drop 1).take (k.length/2+1-1)).length<2^60:=nl;have V:(k.drop (k.length/2+2)).length<2^60:=tX;have Z:Qc l ⟨31,imm,kids⟩ k=Qi (decide (x=2)&&Qk ((k.drop 1).take (k.length/2+1-1))&&decide (y=2)&&Qk (k.drop (k.length/2+2))) 3:=by
   rw[g,J,I,mD h1,mD U,mD o,Nat.add_sub_cancel];rfl
  clear g J I;have e5:(k.length:Int).tmod 2=1:=by rw[O];omega
  have h2':(1:Int)<=((k.length/2:Nat):Int):=aa;have h3':((k.length/2:Nat):Int)<=16:=aa;have C:RD Tryz.prog 23 (.lst (k.map fun n=>[AV.int .i64 n])) (some (.int .i64 1)) (some (.int .i64 ((k.length/2+1:Nat):Int)))=some (.lst (((k.drop 1).take (k.length/2+1-1)).map fun n=>[AV.int .i64 n])):=F;clear F O U o;generalize (k.drop 1).take (k.length/2+1-1)=p at *;generalize k.drop (k.length/2+2)=q at *;generalize k.length/2+1=u at *;generalize k.length/2+2=w at *;generalize k.length/2=m at *;refine P4 (M:=221) (rs:=[.tmp 6]) (L.call _) L.ice L.froz Tryz.func97 rfl rfl Q8.2 rfl ?_;dsimp only[Q8,PZ,Nat.reduceAdd];repeat' (first
   |(apply PO ?_;clear hK K)|apply Ry.o ?_|(apply bD ?_;first|refine Rx.k (j6 (fun _=>rfl) _ _) ?_|refine Rx.k (gA (fun _=>rfl) _ _ _) ?_|refine Rx.k (sD (fun _=>rfl) _ Y _) ?_|refine Rx.k (sD (fun _=>rfl) _ V _) ?_|refine Rx.k (ij (fun _=>rfl) _ _ _) ?_)|(apply aU (fun A j=>?_) (fun A j=>?_)<;>try(cases A;done))|(apply aH (fun z i=>?_) (fun z i=>?_)<;>try(cases z;done))|apply aj ?_|(apply PP fun K hK=>?_)|apply ay ?_|apply PR ?_|apply aq ?_)
  all_goals first
   |exact eK
   |((refine⟨eI,_,da,?_⟩;try simp only[PT]);rw[Z];(try simp only[fI,ig]at *);simp only[ *,ii,iF,kB,kp,lB,gR,ev,f0,gK,f6,cr,cC,Int.reduceEq];done)
 .have Z:Qc l ⟨31,imm,kids⟩ k=Qi false 3:=by
   have hf:(decide (k.length%2=1)&&decide (1<=k.length/2)&&decide (k.length/2<=16))=false:=by
    rw[uX,uX,nQ,nQ,nQ];omega
   rw[g,hf];rfl
  clear g;generalize k.length/2=m at *;generalize k.length%2=r at *;refine P4 (M:=221) (rs:=[.tmp 6]) (L.call _) L.ice L.froz Tryz.func97 rfl rfl Q8.2 rfl ?_;dsimp only[Q8,PZ,Nat.reduceAdd];repeat' (first
   |(apply PO ?_;clear hK K)|apply Ry.o ?_|(apply bD ?_;first|refine Rx.k (j6 (fun _=>rfl) _ _) ?_|refine Rx.k (gA (fun _=>rfl) _ _ _) ?_|refine Rx.k (ij (fun _=>rfl) _ _ _) ?_)|(apply aU (fun A j=>?_) (fun A j=>?_)<;>try(cases A;done))|(apply aH (fun z i=>?_) (fun z i=>?_)<;>try(cases z;done))|apply aj ?_|(apply PP fun K hK=>?_)|apply ay ?_|apply PR ?_|apply aq ?_)
  all_goals first
   |exact eK
   |((refine⟨eI,_,da,?_⟩;try simp only[PT]);rw[Z];done)
   |(exfalso;omega)
end
section
def tyK2.tyF:=ac @dr (ac @cZ (ac @dK (ac @ey (ac @ez (ac @gW (ac @gX (@pC)))))))
open tyK2
theorem NN(ρ:Nat->Int)(x:NsX)(hx:qc x):aX Tryz.prog ρ 97 (lD x) (.int .i64 (Qc x.l x.n x.k)):=Q7 fit (pls:=pls) (ND ρ) (.cons (Sq _) (.cons (.agg (nH _)) (.cons (Sv _) .nil))) (.int _ _) (by
 obtain⟨l,⟨C,V,A⟩,k⟩:=x;obtain⟨J,I,o⟩:=hx;have L:Plain (PU pls lE) 97:=Ra (fun _=>rfl) rfl;rw[lD];simp only[Nd.cells]at J I o⊢;have hq:(16:Int)≠0:=bA;have hq2:(2:Int)≠0:=bA;cases U:(aM C).2 with
 |false=>
  have hv:cU C=.tup [.int .i64 (aM C).1,.bool false]:=by rw[cU,U]
  refine P4 (M:=221) (rs:=[.tmp 6]) (L.call _) L.ice L.froz Tryz.func97 rfl rfl Q8.2 rfl ?_;dsimp only[Q8,PZ,Nat.reduceAdd];repeat' (first
   |(apply PO ?_;clear hK K)|apply Ry.o ?_|(apply bD ?_;first|refine Rx.k (j6 (fun _=>rfl) _ _) ?_)|apply Ry.gu ?_|(apply aU (fun Y j=>?_) (fun Y j=>?_)<;>try(cases Y;done))|(apply aH (fun z i=>?_) (fun z i=>?_)<;>try(cases z;done))|apply aj ?_|(apply PP fun K hK=>?_)|apply aq ?_)
  all_goals
   refine⟨eI,_,da,?_⟩;try simp only[PT]
   rw[NE U]
 |true=>
 by_cases F:0<=(aM C).1/\(A.length:Int)≠(aM C).1
 .have hv:cU C=.tup [.int .i64 (aM C).1,.bool true]:=by rw[cU,U]
  obtain⟨h1,h2⟩:=F;refine P4 (M:=221) (rs:=[.tmp 6]) (L.call _) L.ice L.froz Tryz.func97 rfl rfl Q8.2 rfl ?_;dsimp only[Q8,PZ,Nat.reduceAdd];repeat' (first
   |(apply PO ?_;clear hK K)|apply Ry.o ?_|(apply bD ?_;first|refine Rx.k (j6 (fun _=>rfl) _ _) ?_)|(apply aU (fun Y j=>?_) (fun Y j=>?_)<;>try(cases Y;done))|(apply aH (fun z i=>?_) (fun z i=>?_)<;>try(cases z;done))|apply aj ?_|(apply PP fun K hK=>?_)|apply aq ?_)
  all_goals
   refine⟨eI,_,da,?_⟩;try simp only[PT]
   rw[NF U h1 h2]
 cases O:QH C V with
 |false=>
  have hv:cU C=.tup [.int .i64 (aM C).1,.bool true]:=by rw[cU,U]
  refine P4 (M:=221) (rs:=[.tmp 6]) (L.call _) L.ice L.froz Tryz.func97 rfl rfl Q8.2 rfl ?_;dsimp only[Q8,PZ,Nat.reduceAdd];repeat' (first
   |(apply PO ?_;clear hK K)|apply Ry.o ?_|(apply bD ?_;first|refine Rx.k (j6 (fun _=>rfl) _ _) ?_|refine Rx.k (gA (fun _=>rfl) _ _ _) ?_)|(apply aU (fun Y j=>?_) (fun Y j=>?_)<;>try(cases Y;done))|(apply aH (fun z i=>?_) (fun z i=>?_)<;>try(cases z;done))|apply aj ?_|(apply PP fun K hK=>?_)|apply aq ?_)
  all_goals
   refine⟨eI,_,da,?_⟩;try simp only[PT]
   rw[NG O]
 |true=>
 have g:=NH (l:=l) (n:=⟨C,V,A⟩) (k:=k) U F O;simp only[]at g;by_cases m:C=31
 .subst m;exact NM I O iO
 by_cases c30:C=30
 .subst c30;exact NI J I O iO
 by_cases c25:C=25
 .subst c25;exact NJ J I (o rfl) (by have e:(aM 25).1=1:=rfl;omega) O iO
 have hnn:=sj m c30;have hkn:(A.length:Int)=(aM C).1:=aa;have hv:cU C=.tup [.int .i64 A.length,.bool true]:=by rw[cU,U,hkn]
 by_cases c22:C=22
 .subst c22;obtain⟨a,b,c,rfl⟩:=kG (s:=k) (by have e:(aM 22).1=3:=rfl;omega);have Z:Qc l ⟨22,V,A⟩ [a,b,c]=if a≠1\/b≠c\/b=3 then 0 else b:=iO
  refine P4 (M:=221) (rs:=[.tmp 6]) (L.call _) L.ice L.froz Tryz.func97 rfl rfl Q8.2 rfl ?_;dsimp only[Q8,PZ,Nat.reduceAdd];repeat' (first
   |(apply PO ?_;clear hK K)|apply Ry.o ?_|(apply bD ?_;first|refine Rx.k (j6 (fun _=>rfl) _ _) ?_|refine Rx.k (gA (fun _=>rfl) _ _ _) ?_)|(apply aU (fun Y j=>?_) (fun Y j=>?_)<;>try(cases Y;done))|(apply aH (fun z i=>?_) (fun z i=>?_)<;>try(cases z;done))|apply aj ?_|(apply PP fun K hK=>?_)|(apply PQ 12 [(2,19),(7,19),(10,19),(16,19)] fun K hK=>?_)|(apply P5 ?_;try intro _)|(apply P6 ?_ ?_<;>clear hK K)|apply aS ?_|(apply Ry.gt (fun Y j=>?_) (fun Y j=>?_)<;>try(cases Y;done))|apply ay ?_|apply PR ?_|apply aq ?_)
  all_goals first
   |exact eK
   |((refine⟨eI,_,da,?_⟩;try simp only[PT]);rw[Z];clear Z g o hv hkn F U O J;(try simp only[fI,nQ]at *);first|(rw[az sk];done)|(rw[af sk];done)|(rw[az aa];done)|(rw[af aa];done))
 by_cases c23:C=23
 .subst c23;obtain⟨a,b,rfl⟩:=jc (s:=k) (by have e:(aM 23).1=2:=rfl;omega);have Z:Qc l ⟨23,V,A⟩ [a,b]=Qi (decide (a=2)&&decide (b=1)) 1:=iO;refine P4 (M:=221) (rs:=[.tmp 6]) (L.call _) L.ice L.froz Tryz.func97 rfl rfl Q8.2 rfl ?_;dsimp only[Q8,PZ,Nat.reduceAdd];repeat' (first
   |(apply PO ?_;clear hK K)|apply Ry.o ?_|(apply bD ?_;first|refine Rx.k (j6 (fun _=>rfl) _ _) ?_|refine Rx.k (gA (fun _=>rfl) _ _ _) ?_|refine Rx.k (ij (fun _=>rfl) _ _ _) ?_)|(apply aU (fun Y j=>?_) (fun Y j=>?_)<;>try(cases Y;done))|(apply aH (fun z i=>?_) (fun z i=>?_)<;>try(cases z;done))|apply aj ?_|(apply PP fun K hK=>?_)|apply ay ?_|apply PR ?_|apply aq ?_)
  all_goals first
   |exact eK
   |((refine⟨eI,_,da,?_⟩;try simp only[PT]);rw[Z];(try simp only[]at *);simp only[ *,ii,gN,ev,];done)
   |((refine⟨eI,_,da,?_⟩;try simp only[PT]);rw[Z];clear Z g o hv hkn;simp_all;done)
 by_cases c24:C=24
 .subst c24;obtain⟨a,rfl⟩:=iN (s:=k) (by have e:(aM 24).1=1:=rfl;omega);have Z:Qc l ⟨24,V,A⟩ [a]=Qi (decide (a=2)) 1:=iO;refine P4 (M:=221) (rs:=[.tmp 6]) (L.call _) L.ice L.froz Tryz.func97 rfl rfl Q8.2 rfl ?_;dsimp only[Q8,PZ,Nat.reduceAdd];repeat' (first
   |(apply PO ?_;clear hK K)|apply Ry.o ?_|(apply bD ?_;first|refine Rx.k (j6 (fun _=>rfl) _ _) ?_|refine Rx.k (gA (fun _=>rfl) _ _ _) ?_|refine Rx.k (ij (fun _=>rfl) _ _ _) ?_)|(apply aU (fun Y j=>?_) (fun Y j=>?_)<;>try(cases Y;done))|(apply aH (fun z i=>?_) (fun z i=>?_)<;>try(cases z;done))|apply aj ?_|(apply PP fun K hK=>?_)|apply ay ?_|apply PR ?_|apply aq ?_)
  all_goals first
   |exact eK
   |((refine⟨eI,_,da,?_⟩;try simp only[PT]);rw[Z];done)
 by_cases c27:C=27
 .subst c27;obtain⟨a,b,rfl⟩:=jc (s:=k) (by have e:(aM 27).1=2:=rfl;omega);have Z:Qc l ⟨27,V,A⟩ [a,b]=Qi (decide (a=2)&&decide (b=1)) 2:=iO;refine P4 (M:=221) (rs:=[.tmp 6]) (L.call _) L.ice L.froz Tryz.func97 rfl rfl Q8.2 rfl ?_;dsimp only[Q8,PZ,Nat.reduceAdd];repeat' (first
   |(apply PO ?_;clear hK K)|apply Ry.o ?_|(apply bD ?_;first|refine Rx.k (j6 (fun _=>rfl) _ _) ?_|refine Rx.k (gA (fun _=>rfl) _ _ _) ?_|refine Rx.k (ij (fun _=>rfl) _ _ _) ?_)|(apply aU (fun Y j=>?_) (fun Y j=>?_)<;>try(cases Y;done))|(apply aH (fun z i=>?_) (fun z i=>?_)<;>try(cases z;done))|apply aj ?_|(apply PP fun K hK=>?_)|apply ay ?_|apply PR ?_|apply aq ?_)
  all_goals first
   |exact eK
   |((refine⟨eI,_,da,?_⟩;try simp only[PT]);rw[Z];(try simp only[]at *);simp only[ *,ii,gN,ev,];done)
 by_cases c29:C=29
 .subst c29;obtain⟨a,b,rfl⟩:=jc (s:=k) (by have e:(aM 29).1=2:=rfl;omega);have Z:Qc l ⟨29,V,A⟩ [a,b]=Qi (decide (a=2)&&decide (b=1)) 2:=iO;refine P4 (M:=221) (rs:=[.tmp 6]) (L.call _) L.ice L.froz Tryz.func97 rfl rfl Q8.2 rfl ?_;dsimp only[Q8,PZ,Nat.reduceAdd];repeat' (first
   |(apply PO ?_;clear hK K)|apply Ry.o ?_|(apply bD ?_;first|refine Rx.k (j6 (fun _=>rfl) _ _) ?_|refine Rx.k (gA (fun _=>rfl) _ _ _) ?_|refine Rx.k (ij (fun _=>rfl) _ _ _) ?_)|(apply aU (fun Y j=>?_) (fun Y j=>?_)<;>try(cases Y;done))|(apply aH (fun z i=>?_) (fun z i=>?_)<;>try(cases z;done))|apply aj ?_|(apply PP fun K hK=>?_)|apply ay ?_|apply PR ?_|apply aq ?_)
  all_goals first
   |exact eK
   |((refine⟨eI,_,da,?_⟩;try simp only[PT]);rw[Z];(try simp only[]at *);simp only[ *,ii,gN,ev,];done)
 by_cases c28:C=28
 .subst c28;obtain⟨a,b,c,rfl⟩:=kG (s:=k) (by have e:(aM 28).1=3:=rfl;omega);have Z:Qc l ⟨28,V,A⟩ [a,b,c]=Qi (decide (a=2)&&decide (b=1)&&decide (c=1)) 2:=iO;refine P4 (M:=221) (rs:=[.tmp 6]) (L.call _) L.ice L.froz Tryz.func97 rfl rfl Q8.2 rfl ?_;dsimp only[Q8,PZ,Nat.reduceAdd];repeat' (first
   |(apply PO ?_;clear hK K)|apply Ry.o ?_|(apply bD ?_;first|refine Rx.k (j6 (fun _=>rfl) _ _) ?_|refine Rx.k (gA (fun _=>rfl) _ _ _) ?_|refine Rx.k (ij (fun _=>rfl) _ _ _) ?_)|(apply aU (fun Y j=>?_) (fun Y j=>?_)<;>try(cases Y;done))|(apply aH (fun z i=>?_) (fun z i=>?_)<;>try(cases z;done))|apply aj ?_|(apply PP fun K hK=>?_)|apply ay ?_|apply PR ?_|apply aq ?_)
  all_goals first
   |exact eK
   |((refine⟨eI,_,da,?_⟩;try simp only[PT]);rw[Z];(try simp only[]at *);simp only[ *,ii,gR,ev,f0,];done)
 by_cases c26:C=26
 .subst c26;have Z:Qc l ⟨26,V,A⟩ k=2:=iO;refine P4 (M:=221) (rs:=[.tmp 6]) (L.call _) L.ice L.froz Tryz.func97 rfl rfl Q8.2 rfl ?_;dsimp only[Q8,PZ,Nat.reduceAdd];repeat' (first
   |(apply PO ?_;clear hK K)|apply Ry.o ?_|(apply bD ?_;first|refine Rx.k (j6 (fun _=>rfl) _ _) ?_|refine Rx.k (gA (fun _=>rfl) _ _ _) ?_|refine Rx.k (ij (fun _=>rfl) _ _ _) ?_)|(apply aU (fun Y j=>?_) (fun Y j=>?_)<;>try(cases Y;done))|(apply aH (fun z i=>?_) (fun z i=>?_)<;>try(cases z;done))|apply aj ?_|(apply PP fun K hK=>?_)|apply ay ?_|apply PR ?_|apply aq ?_)
  all_goals first
   |exact eK
   |((refine⟨eI,_,da,?_⟩;try simp only[PT]);rw[Z];done)
 by_cases c3:C=3
 .subst c3;have Z:Qc l ⟨3,V,A⟩ k=if V.tmod 16=0 then 2 else 1:=iO
  refine P4 (M:=221) (rs:=[.tmp 6]) (L.call _) L.ice L.froz Tryz.func97 rfl rfl Q8.2 rfl ?_;dsimp only[Q8,PZ,Nat.reduceAdd];repeat' (first
   |(apply PO ?_;clear hK K)|apply Ry.o ?_|(apply bD ?_;first|refine Rx.k (j6 (fun _=>rfl) _ _) ?_|refine Rx.k (gA (fun _=>rfl) _ _ _) ?_|refine Rx.k (ij (fun _=>rfl) _ _ _) ?_)|(apply aU (fun Y j=>?_) (fun Y j=>?_)<;>try(cases Y;done))|(apply aH (fun z i=>?_) (fun z i=>?_)<;>try(cases z;done))|apply aj ?_|(apply PP fun K hK=>?_)|apply ay ?_|apply PR ?_|apply aq ?_)
  all_goals first
   |exact eK
   |((refine⟨eI,_,da,?_⟩;try simp only[PT]);rw[Z,az dj];done)
   |((refine⟨eI,_,da,?_⟩;try simp only[PT]);rw[Z,af dj];done)
 have Z:Qc l ⟨C,V,A⟩ k=Qi (Qk k) 1:=by
  rw[g,af c3,af c26,af c22,af c23,af c24,af c25,af aa,af c28,af c30,af m]
 have hkb':k.length<2^60:=aa;have hk0:(0:Int)<=A.length:=aa;refine P4 (M:=221) (rs:=[.tmp 6]) (L.call _) L.ice L.froz Tryz.func97 rfl rfl Q8.2 rfl ?_;dsimp only[Q8,PZ,Nat.reduceAdd];repeat' (first
  |(apply PO ?_;clear hK K)|apply Ry.o ?_|(apply bD ?_;first|refine Rx.k (j6 (fun _=>rfl) _ _) ?_|refine Rx.k (gA (fun _=>rfl) _ _ _) ?_|refine Rx.k (sD (fun _=>rfl) _ hkb' _) ?_|refine Rx.k (ij (fun _=>rfl) _ _ _) ?_)|(apply aU (fun Y j=>?_) (fun Y j=>?_)<;>try(cases Y;done))|(apply aH (fun z i=>?_) (fun z i=>?_)<;>try(cases z;done))|apply aj ?_|(apply PP fun K hK=>?_)|apply ay ?_|apply PR ?_|apply aq ?_)
 all_goals first
  |exact eK
  |((refine⟨eI,_,da,?_⟩;try simp only[PT]);rw[Z];done))
end
section
def tyK3.tyF:=ac @dr (ac @cZ (ac @dK (ac @ey (ac @ez (@jU)))))
open tyK3
noncomputable def At:{c:SC // aB 69 (Tryz.f60.body.getD .skip)=c}:=by
 refine⟨?_,?_⟩;rotate_left
 .simp only[Tryz.f60,bh,aB,Qh,Qe,Qm,Qn,Nat.blt,Nat.ble];rfl
noncomputable def vz:En:=⟨97,true,bG qc lD fun x=>.int .i64 (Qc x.l x.n x.k)⟩
theorem NO(ρ:Nat->Int):QM Tryz.prog ρ vz:=QP fun x C=>NN ρ x C
noncomputable def sF:List En:=[i9 vz]
theorem NP(ρ:Nat->Int):dG Tryz.prog ρ sF:=⟨nF (NO ρ),trivial⟩
theorem vA(l:List Nd):bg 60 (Qz l)=Qz l:=by
 show AV.lst ((l.map Nd.cells).map fun O=>O.map (bg 59))=_;rw[nt];have e:(fun O=>O.map (bg 59)) ∘ Nd.cells=Nd.cells:=by
  funext x
  show(x.cells).map (bg 59)=x.cells;rw[Nd.cells];simp only[dS,n0,ss 57];rfl
 rw[e]
theorem NQ(y:NsX):(lD y).any (gT 90)=false:=by
 obtain⟨l,⟨C,j,A⟩,s⟩:=y;rfl
theorem NR(S:Nat->Prop)(H:Hp)(n:Nd):QG S 3 H (.agg n.cells) (.agg n.cells):=by
 refine⟨n.cells,?_,rfl⟩;rw[Nd.cells];exact⟨i8 ⟨.int _ _,trivial⟩,i8 ⟨.int _ _,trivial⟩,i8 ⟨Sv _,trivial⟩,trivial⟩
theorem NS{tb:List En}(o:∀C,QT tb 97 C=(i9 vz).sp C)(F:iI tb 97=true){H:Hp}{v:AV}{s:List Int}{lo:Nat}(J:QL H v s lo)(l:List Nd)(n:Nd)(Z:qc ⟨l,n,s⟩):
 P2 Tryz.prog (PU pls tb) 97 [Qz l,.agg n.cells,v] H fun w H'=>w=.int .i64 (Qc l n s)/\Icy (fun k=>lo<=k) H H':=by
 obtain⟨u,i,g⟩:=J.ic;refine sd (x:=(⟨l,n,s⟩:NsX)) (enc:=lD) (ok:=qc) (out:=fun x=>.int .i64 (Qc x.l x.n x.k)) (us:=[Qz l,.agg n.cells,u]) (n:=3) NC (fun C=>by rw[o];rfl) F NQ Z aa ⟨i8 ⟨Sq _,trivial⟩,NR _ _ _,i,trivial⟩ ?_;show [bg 60 (Qz l),bg 60 (.agg n.cells),bg 60 u]=_;rw[g,z5 56,vA];rfl
theorem NT{l:List Nd}{i:Nat}(F:i<l.length){n:Nd}{s:List Int}(m:l[i]?=some n)(j:Rf i (Qb l i) n.kids=some s):Rq l i (Qb l i)=Qc l n s:=by
 rw[<-MH aa,u7,m];simp only[j]
theorem NU{l:List Nd}{i:Nat}{kn s:List Int}{n:Nd}(F:i<l.length)(I:QY l)(Z:l[i]?=some n)(j:Rf i kn n.kids=some s):qc ⟨l,n,s⟩:=by
 have z:=I.2 n (jv Z);have e:=jT j;refine⟨e,fN,fun _ Y=>?_⟩;obtain⟨k,g⟩:=iN Y;simp only[]at g⊢;obtain⟨o,U,_⟩:=nC j k (by rw[g];exact zY _);obtain⟨m,rfl⟩:=cX o;have V:m<l.length:=aa;exact⟨m,l[m],g,a1 V,I.2 _ (e9 V)⟩
theorem QL.at{H:Hp}{v:AV}{l:List Int}{lo:Nat}(h:QL H v l lo){i:Nat}(F:i<l.length):
 ∃r,Qt Tryz.prog 23 v (.int .i64 (i:Int))=some (.ptr r i)/\Ru Tryz.prog H 3 (.ptr r i)=some (.int .i64 l[i]):=by
 rcases h with⟨_,rfl⟩|h
 .simp at F
 .exact h.at F
set_option maxRecDepth 100000 in
theorem NV(ρ:Nat->Int)(l:List Nd)(hl:QY l):aX Tryz.prog ρ 60 [Qz l] (Qg (Qb l l.length)):=rX (n:=3) (SY (r:=lw (Qb l l.length)) (m:=3) (cfg:=PU pls sF) fit (gL ρ) (dG.look (NP ρ)) (.cons (Sq _) .nil) (by
 have hl0:=hl;obtain⟨hl1,hl2⟩:=hl;have hw:Plain (PU pls sF) 60:=Ra (fun _=>rfl) rfl;have hkeep:(PU pls sF).keep 60=false:=rfl;refine P4 (M:=69) (rs:=[.tmp 2]) (hw.call _) hw.ice hw.froz Tryz.func60 rfl rfl At.2 rfl ?_;dsimp only[At,PZ,Nat.reduceAdd];repeat' (first
  |(apply PO ?_;clear hK K)|apply Rx.o ?_|apply aj ?_|(apply PP fun K hK=>?_)|apply ay ?_|fail)
 refine Rk [0,2] [] 4 l.length (fun i E H=>∃v,E.at 3=v/\iM H v (Qb l i) 0) eE ⟨.nilS,eE,.inl ⟨rfl,rfl⟩⟩ ?_;rintro i E o hi hcE hrH hnH hsI ⟨v,k3,hv⟩;(try simp only[QK,Qs,a7,P7,Qy,Nat.reduceBEq, *]at hcE);(try simp only[Qs, *]at hrH);(try simp only[Re,]at hnH);repeat' (first
  |(apply PO ?_;clear hK K)|apply Rx.o ?_|(apply a6 (fun z Z=>?_) (fun z Z=>?_)<;>try(cases z;done))|apply aj ?_|(apply PP fun K hK=>?_)|apply ay ?_|apply PR ?_|apply aq ?_|apply PX ?_)
 .have hlt:i<l.length:=by simpa using z
  have hgi:l[i]?=some l[i]:=a1 hlt;have hnk:=hl2 _ (e9 hlt);generalize l[i]=n at *;repeat' (first
   |(apply PO ?_;clear hK K)|fail)
  refine Rk [0,2,3,4] [] 7 n.kids.length (fun j E H=>∃w s,E.at 5=w/\QL H w s o.next/\kI i (Qb l i) n.kids j s/\E.at 6=.bool true/\∀k,k<o.next->H.get k=o.get k) eE ⟨.nilS,[],eE,.inl ⟨rfl,rfl⟩,⟨rfl,aA⟩,eE,fun _ _=>rfl⟩ ?_;rintro j E3 H3 hj hcE hrH hnH hsI ⟨w,s,k5,g,hJ,k6,Y⟩;(try simp only[QK,Qs,a7,P7,Nat.reduceBEq, *]at hcE);(try simp only[Qs, *]at hrH);(try simp only[QA,QZ,Re,bZ,Nat.reduceAdd]at hnH);repeat' (first
   |(apply PO ?_;clear hK K)|apply Rx.o ?_|(apply a6 (fun z Z=>?_) (fun z Z=>?_)<;>try(cases z;done))|apply aj ?_|(apply PP fun K hK=>?_)|apply ay ?_|apply PR ?_|apply PX ?_)
  .have hlt2:j<n.kids.length:=by simpa using z
   have hgx:n.kids[j]?=some n.kids[j]:=a1 hlt2;generalize n.kids[j]=I at *;have C:iM H3 v (Qb l i) 0:=hv.keep aa fun k U=>Y k (hv.n.lt U).2;have O:∀(x:Int),QL (H3.alloc (.cells [.int .i64 x] 0 true)) v (Qb l i) 0:=fun x=>C.n.keep (dD _) fun k U=>by rw[P8,af (by have:=(hv.n.lt U).2;omega)]
   by_cases F:I<0\/(i:Int)<=I\/(Qb l i).getD I.toNat 0=0
   .have hs0:Rq l i (Qb l i)=0:=su hgi (hJ.bad hgx F);have J:Qb l (i+1)=Qb l i++[0]:=by rw[Qb,hs0]
    obtain⟨v5,H5,a5,s5,n5,f5,o5⟩:=SM (r:=H3.next) (imm:=0) 0 (O 0) (ca _) eX kq;have n5':o.next<=H5.next:=kH
    clear n5 f5 o5 O;by_cases c1:I<0
    .repeat' (first
      |(apply PO ?_;clear hK K)|apply Ry.o ?_|(apply aU (fun A V=>?_) (fun A V=>?_)<;>try(cases A;done))|(apply aH (fun z Z=>?_) (fun z Z=>?_)<;>try(cases z;done))|apply aj ?_|(apply PP fun K hK=>?_)|apply PX ?_)
     refine⟨aa,P1,P1,QN,lA,?_⟩;exact⟨v5,eE,.inr ⟨nY,nZ⟩⟩
    by_cases c2:(i:Int)<=I
    .have c1':¬I<0:=c1;repeat' (first
      |(apply PO ?_;clear hK K)|apply Ry.o ?_|(apply aU (fun A V=>?_) (fun A V=>?_)<;>try(cases A;done))|(apply aH (fun z Z=>?_) (fun z Z=>?_)<;>try(cases z;done))|apply aj ?_|(apply PP fun K hK=>?_)|apply PX ?_)
     refine⟨aa,P1,P1,QN,lA,?_⟩;exact⟨v5,eE,.inr ⟨nY,nZ⟩⟩
    have hb0:(Qb l i).getD I.toNat 0=0:=by
     rcases F with h|h|h
     .exact absurd h c1
     .exact absurd h c2
     .exact h
    clear F;obtain⟨m,rfl⟩:=cX (qa.1 c1);have L:m<(Qb l i).length:=kq;obtain⟨q,hix,hlo⟩:=C.n.at L;have hgk:(Qb l i)[m]=0:=by
     rw[cY,cN,a1 L]at hb0;exact hb0
    rw[hgk]at hlo;repeat' (first
     |(apply PO ?_;clear hK K)|apply Ry.o ?_|(apply aU (fun A V=>?_) (fun A V=>?_)<;>try(cases A;done))|(apply aH (fun z Z=>?_) (fun z Z=>?_)<;>try(cases z;done))|apply aj ?_|(apply PP fun K hK=>?_)|apply PX ?_)
    refine⟨aa,P1,P1,QN,lA,?_⟩;exact⟨v5,eE,.inr ⟨nY,nZ⟩⟩
   .have hJn:=hJ.next hgx F
    have c1:¬I<0:=fun h=>F (.inl h);have c2:¬(i:Int)<=I:=fun h=>F (.inr (.inl h));have c3:¬(Qb l i).getD I.toNat 0=0:=fun h=>F (.inr (.inr h));clear F O;obtain⟨m,rfl⟩:=cX (qa.1 c1);have L:m<(Qb l i).length:=kq;obtain⟨q,hix,hlo⟩:=C.n.at L;have hgk:(Qb l i).getD (m:Int).toNat 0=(Qb l i)[m]:=by
     rw[cY,cN,a1 L];rfl
    rw[hgk]at c3 hJn;generalize (Qb l i)[m]=x at *;have hwb:QL (H3.alloc (.cells [.int .i64 x] 0 true)) w s o.next:=g.keep (dD _) fun k U=>by rw[P8,af (by have:=(g.lt U).2;omega)]
    obtain⟨v5,H5,a5,s5,n5,f5,o5⟩:=SM (r:=H3.next) (imm:=0) x hwb lz eX (by rw[hJ.1];omega);have n5':H3.next<=H5.next:=kH
    have o5':∀k,k<o.next->H5.get k=o.get k:=fun k U=>by rw[f5 k U,P8,af aa,Y k U]
    clear n5 f5 o5 hJ Y C;repeat' (first
     |(apply PO ?_;clear hK K)|apply Ry.o ?_|(apply aU (fun A V=>?_) (fun A V=>?_)<;>try(cases A;done))|(apply aH (fun z Z=>?_) (fun z Z=>?_)<;>try(cases z;done))|apply aj ?_|(apply PP fun K hK=>?_)|apply PR ?_|fail)
    refine⟨aa,P1,P1,QN,p9,?_⟩;exact⟨v5,s++[x],eE,.inr s5,hJn,eE,o5'⟩
  .have hje:j=n.kids.length:=by omega
   rw[hje]at hJ;have C:iM H3 v (Qb l i) 0:=hv.keep aa fun k U=>Y k (hv.n.lt U).2;have hs1:=NT hlt hgi hJ.done;have hok:=NU hlt hl0 hgi hJ.done;have J:Qb l (i+1)=Qb l i++[Qc l n s]:=by rw[Qb,hs1]
   repeat' (first
    |(apply PO ?_;clear hK K)|fail)
   refine ci rfl cu cy ?_;simp only[b8];refine b3 ?_ (NS (fun _=>rfl) rfl g l n hok);rintro x H4 ⟨rfl,hy⟩;have n4:=hy.next
   have n4':o.next<=H4.next:=aa
   have hv4:iM H4 v (Qb l i) 0:=C.keep aa fun k U=>hy.out k (by have:=(hv.n.lt U).2;omega);clear hy n4 g hJ Y C hs1 hok;dsimp only[Qo];generalize Qc l n s=x at *;have O:QL (H4.alloc (.cells [.int .i64 x] 0 true)) v (Qb l i) 0:=hv4.n.keep (dD _) fun k U=>by rw[P8,af (by have:=(hv4.n.lt U).2;omega)]
   obtain⟨v5,H5,a5,s5,n5,f5,o5⟩:=SM (r:=H4.next) (imm:=0) x O (ca _) eX kq;have n5':o.next<=H5.next:=kH
   clear n5 f5 o5 O;repeat' (first
    |(apply PO ?_;clear hK K)|apply Rx.o ?_|(apply PP fun K hK=>?_)|fail)
   refine⟨aa,P1,P1,QN,lA,?_⟩;exact⟨v5,eE,.inr ⟨nY,nZ⟩⟩
 .have hie:i=l.length:=by simp at z;omega
  rw[hie]at hv;repeat' (first
   |(apply PO ?_;clear hK K)|fail)
  all_goals (refine⟨eI,_,P0,?_⟩;try simp only[PT])
  exact hv.iceV 1)) (u6 1 _)
end
end Go.Proofs.YtljebeflbbgibaaGreat
