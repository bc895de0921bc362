/- Parts: EvX, EsW. -/
import Derived.Test.YtljebeflbbgibaaGreatXCP
set_option linter.unusedSimpArgs false
set_option linter.unusedVariables false
set_option linter.unusedSectionVars false
set_option linter.defProp false
set_option maxHeartbeats 32000000
namespace Go.Ab
set_option maxRecDepth 20000
open Go
theorem nP{P:Prop}(h:P:=by simp[ph]):P:=h
end Go.Ab
namespace Go.Proofs.YtljebeflbbgibaaGreat
set_option maxRecDepth 20000
open Go Go.Ab
theorem zqi(x y:RunX)(h:oN x=oN y):x=y:=by
 obtain⟨u,Z,al,f⟩:=x;obtain⟨V,j,m,C⟩:=y;simp only[oN,zfN,cR,AV.agg.injEq,AV.str.injEq,AV.lst.injEq,AV.int.injEq,fR,aX]at h;rw[Un.inj h.1,h.2.1,BN h.2.2.1,h.2.2.2]
noncomputable def C1:En:=⟨13,true,b7 (fun o=>o.out.length<2^60) (fun o=>[eG o,eG o]) fun _=>.bool true⟩
theorem znU(ρ:Nat->Int):yO Tryz.prog ρ C1:=zei fun o K=>zub ρ o K
noncomputable def K8:En:=⟨15,false,fun args=>pY knEvEx.list 15 args⟩
theorem zqj(ρ:Nat->Int):yO Tryz.prog ρ K8:=fun args r hr=>wM (knEvEx.ok ρ) _ args r hr
theorem zud(y:RunX):(oN y).any (jf 90)=false:=rfl
theorem zcU(y:Un):([.agg y.cells]:List AV).any (jf 90)=false:=rfl
theorem zcV(y:Oc):([eG y,eG y]:List AV).any (jf 90)=false:=rfl
section
variable {tb:List En} {S:Nat -> Prop} {n:Nat} {H:Hp}
theorem zcW{u:Un}(F:∀C,zem tb 12 C=(jS CZ).sp C)(A:ir tb 12=true)(K:UnOkR u)(m:n<60){cs:List AV}(O:zeF S n H cs u.cells):zdw Tryz.prog (zdp pls tb) 12 [.agg cs] H fun w H'=>w=.bool (fW u)/\Icy S H H':=by
 obtain⟨Z,i,g⟩:zeF S (n+1) H [.agg cs] [.agg u.cells]:=.cons (.agg O) .nil;exact qQ (x:=u) (enc:=fun u:Un=>[.agg u.cells]) (ok:=UnOkR) (out:=fun u=>.bool (fW u)) (fun x y h=>Un.inj ja) (fun C=>sk) A zcU K ac i (g 60 ac)
theorem zyO(x y:Oc)(h:([eG x,eG x]:List AV)=[eG y,eG y]):x=y:=by
 obtain⟨a,b,c,d⟩:=x;obtain⟨A,m,I,o⟩:=y;simp only[eG,zfN,cR,AV.agg.injEq,AV.lst.injEq,AV.int.injEq,fR,aX,mX]at h;rw[h.1,h.2.1,BN h.2.2.1,h.2.2.2]
theorem zcY{o:Oc}(F:∀C,zem tb 13 C=(jS C1).sp C)(A:ir tb 13=true)(K:o.out.length<2^60)(m:n<=60){args:List AV}(O:zeF S n H args [eG o,eG o]):zdw Tryz.prog (zdp pls tb) 13 args H fun w H'=>w=.bool true/\Icy S H H':=by
 obtain⟨Z,i,g⟩:=O;exact qQ (x:=o) (enc:=fun o=>[eG o,eG o]) (ok:=fun o=>o.out.length<2^60) (out:=fun _=>.bool true) zyO (fun C=>sk) A zcV K ac i (g 60 m)
end
theorem zcZ{S:Nat->Prop}{n:Nat}{H:Hp}(l:List Int):eg S (n+1) H (zfN l) (zfN l):=.flat ⟨x8 l,trivial⟩ (YC l)
theorem K9{S:Nat->Prop}{n:Nat}{H:Hp}(o:Oc):eg S (n+2) H (eG o) (eG o):=eg.agg (.cons (.int _ _) (.cons (.int _ _) (.cons (zcZ _) (.cons (.int _ _) .nil))))
theorem C2{S T:Nat->Prop}{n:Nat}{H z:Hp}{v w:List AV}(h:zeF S n H v w)(i:Icy T H z):zeF S n z v w:=h.frame (fun _ q=>q) (by rw[i.next];exact aM _) fun k _ _=>i.same k
theorem zc0{u:Un}(J:u.arrays.length<2^30)(m:u.funcs.length<2^30)(Z:(gH u).sz<2^36)(h:∀g∈u.funcs,g.nodes.length<2^30/\∀n∈g.nodes,NdR n):UnOkR u:=⟨⟨J,m,fun g z=>⟨(h g z).1,fun n Y=>((h g z).2 n Y).len⟩,Z⟩,fun g z=>(h g z).2⟩
theorem zc1(y:List Nd×Nd):(oD y).any (jf 90)=false:=by obtain⟨l,⟨a,b,c⟩⟩:=y;rfl
theorem zc2{tb:List En}(I:∀C,zem tb 16 C=(jS BI).sp C)(A:ir tb 16=true){S:Nat->Prop}{n:Nat}{H:Hp}{v:AV}{l:List Nd}{cs:List AV}{x:Nd}(m:n<57)(L:zeO S n H 3 v (l.map Nd.cells))(O:zeF S n H cs x.cells)(V:zeN l):
 zdw Tryz.prog (zdp pls tb) 16 [v,.agg cs] H fun w H'=>w=.bool (decide (x∈l))/\Icy S H H':=by
 obtain⟨Z,i,g⟩:zeF S (n+1) H [v,.agg cs] (oD (l,x)):=.cons L.rd (.cons (.agg O) .nil);rw[<-Ys];exact qQ (x:=((l,x):List Nd×Nd)) (enc:=oD) (ok:=fun x=>zeN x.1) (out:=fun x=>.bool (nA x.1 x.2)) Yt (fun C=>by rw[I];rfl) A zc1 V ac i (g 60 ac)
theorem zue{S:Nat->Prop}{n m:Nat}{H:Hp}{c u:AV}{k:IntKind}{x:Int}(h:zee S n H c u)(e:bF m u=.int k x):c=.int k x:=by
 cases n with
 |zero=>exact h.elim
 |succ n=>
  cases c with
  |agg Y=>
   obtain⟨I,_,rfl⟩:=h;cases m<;>simp[bF]at e
  |sl r o l z=>
   obtain⟨_,_,_,_,_,_,_,_,_,_,rfl⟩:=h;cases m<;>simp[bF]at e
  |_=>obtain⟨_,rfl⟩:=h;cases m<;>simp[bF]at e⊢ <;>exact e
theorem La{S:Nat->Prop}{n:Nat}{H:Hp}:∀{rows:List (List AV)}{l:List Nd}{s:Nat}{nd:Nd},fK S n H 3 rows (l.map Nd.cells)->l[s]?=some nd->rows.flatten[s*3]?=some (.int .i64 nd.op)
 |[],[],s,nd,_,hs=>by simp at hs
 |r::rows,x::l,0,nd,h,hs=>by
  simp only[ke,aA]at hs;subst hs;obtain⟨o,C,i,g⟩:=h.1;have U:=g n (aM _)
  match r,C,i,U with
  |c::r,u::C,i,U=>
   rw[show Nd.cells x=[AV.int .i64 x.op,.int .i64 x.imm,zel x.kids]from rfl,dL,cR]at U;rw[zue i.1 U.1];rfl
 |r::rows,x::l,s+1,nd,h,hs=>by
  have ih:=La (rows:=rows) (l:=l) (s:=s) (nd:=nd) h.2 (by simpa using hs);rw[lA,fZ (by rw[h.1.1];omega),h.1.1,show(s+1)*3-3=s*3 by omega];exact ih
theorem zeO.atE{S:Nat->Prop}{n z:Nat}{H:Hp}{v:AV}{Z:List (List AV)}(h:zeO S n H z v Z){k o m M:Nat}(e:v=.sl k o m M):S k/\k<H.next:=by
 rcases h with⟨rfl,_⟩|⟨q,j,rows,rfl,i,g,_⟩
 .cases e
 .simp only[AV.sl.injEq]at e;rw[<-e.1];exact⟨i,g⟩
theorem zc4{S:Nat->Prop}{n:Nat}{H:Hp}{v:AV}{l:List Nd}(h:zeO S n H 3 v (l.map Nd.cells)){s:Nat}{nd:Nd}(K:l[s]?=some nd):∃(q j:Nat) (Y:List AV),v=.sl q 0 l.length 3/\S q/\q<H.next/\H.get q=some (.cells Y j true)/\Y[s*3]?=some (.int .i64 nd.op):=by
 rcases h with⟨_,e⟩|⟨q,j,rows,rfl,Z,g,o,U,i⟩
 .rw[List.map_eq_nil_iff]at e;subst e;simp at K
 .exact⟨q,j,rows.flatten,by rw[show rows.length=l.length by have:=zdW.len i;rw[cE]at this;exact this],Z,g,o,La i K⟩
def mK(store:Bool):Int:=if store then 28 else 29
structure EsI (c:Int) (i:Nat) (l:List Nd) (s:Nat):Prop where
 es:∃D,Es9 c l D
 s4:4<=s
 op:∃nd,l[s]?=some nd/\(nd.op=27\/nd.op=28\/nd.op=29)
 len:l.length<=5+2*i
 ndr:∀n∈l,NdR n
theorem EsI.sl{c:Int}{i:Nat}{l:List Nd}{s:Nat}(h:EsI c i l s):s<l.length:=by
 obtain⟨J,Z,_⟩:=h.op;exact(de.1 Z).1
theorem EsI.five{c:Int}{i:Nat}{l:List Nd}{s:Nat}(h:EsI c i l s):5<=l.length:=by
 obtain⟨D,h⟩:=h.es;exact h.len
theorem EsI.nds{c:Int}{i:Nat}{l:List Nd}{s:Nat}(h:EsI c i l s)(A:i<=5):zeN l:=⟨by have:=h.len;omega,fun n m=>(h.ndr n m).len⟩
theorem zc5{c:Int}(A:0<=c)(h1:c<200):EsI c 0 (mr c) 4 where
 es:=⟨_,Of c⟩
 s4:=ac
 op:=⟨⟨27,c,[3,2]⟩,rfl,.inl rfl⟩
 len:=by simp[mr]
 ndr:=fun n m=>by
  simp only[mr,ff,sm,sn]at m;rcases m with rfl|rfl|rfl|rfl|rfl<;>refine⟨⟨aB,aB⟩,⟨by simp<;>omega,by simp<;>omega⟩,fun q F=>?_,aB⟩<;>simp at F<;>omega
theorem zg(l:List Nd)(n:Nd):l.length<=(ze2 l n).length/\(ze2 l n).length<=l.length+1:=by
 unfold ze2;split
 .omega
 .rw[ep,B3];omega
theorem Lb{l:List Nd}{n x:Nd}(h:x∈ze2 l n):x∈l\/x=n:=by
 unfold ze2 at h;split at h
 .exact .inl h
 .rcases oa.1 h with h|h
  .exact .inl h
  .exact .inr (uA.1 h)
theorem zqk{l:List Nd}{n:Nd}{s:Nat}{nd:Nd}(h:l[s]?=some nd):(ze2 l n)[s]?=some nd:=by
 unfold ze2;split
 .exact h
 .rw[fz (de.1 h).1];exact h
theorem EsI.const{c:Int}{i:Nat}{l:List Nd}{s:Nat}(h:EsI c i l s)(o:Int)(A:-9223372036854775808<=o/\o<9223372036854775808):(∃D,Es9 c (ze2 l ⟨1,o,[]⟩) D)/\(∃J,(ze2 l ⟨1,o,[]⟩)[s]?=some J/\(J.op=27\/J.op=28\/J.op=29))/\(ze2 l ⟨1,o,[]⟩).length<=6+2*i/\∀n∈ze2 l ⟨1,o,[]⟩,NdR n:=by
 obtain⟨D,Z⟩:=h.es;obtain⟨J,Y,g⟩:=h.op;refine⟨Ob Z o,⟨J,zqk Y,g⟩,by have:=(zg l ⟨1,o,[]⟩).2;have:=h.len;omega,fun n m=>?_⟩;rcases Lb m with m|rfl
 .exact h.ndr n m
 .exact⟨⟨aB,aB⟩,A,fun q F=>by simp at F,aB⟩
theorem EsI.step{c:Int}{i:Nat}{l:List Nd}{s:Nat}(h:EsI c i l s)(K:i<5){o:Int}(A:-9223372036854775808<=o/\o<9223372036854775808)(store:Bool){nd:Nd}(Z:(ss store l s o)[(ss store l s o).length-1]?=some nd)(g:nd.op=mK store):EsI c (i+1) (ss store l s o) ((ss store l s o).length-1):=by
 obtain⟨⟨D,V⟩,⟨x,U,O⟩,I,M⟩:=h.const o A;have C:=V.len;have J:=h.s4;have L:=(de.1 U).1;unfold ss at Z⊢;generalize ze2 l ⟨1,o,[]⟩=m at *;have z:=zg m (ph store s m);refine⟨Od V store J U O,ac,⟨nd,Z,?_⟩,ac,fun n Y=>?_⟩
 .rw[g,mK];cases store
  .exact .inr (.inr rfl)
  .exact .inr (.inl rfl)
 .rcases Lb Y with Y|rfl
  .exact M n Y
  .cases store
   .exact⟨⟨nP,nP⟩,⟨nP,nP⟩,fun q F=>by simp[ph]at F;omega,nP⟩
   .exact⟨⟨nP,nP⟩,⟨nP,nP⟩,fun q F=>by simp[ph]at F;omega,nP⟩
def lV(l:List Nd)(s d:Int):Un:=⟨[⟨[97],1⟩],[my l s d]⟩
def vO(l:List Nd)(s d:Int):RunX:=⟨lV l s d,[102],[],3⟩
theorem EsI.ndrG{c:Int}{i:Nat}{l:List Nd}{s:Nat}(h:EsI c i l s)(A:i<=5){d:Int}(Z:0<=d)(Y:d<200):∀n∈(my l s d).nodes,NdR n:=fun n m=>by
 have V:=h.len;have g:=h.sl;rcases oa.1 m with m|m
 .exact h.ndr n m
 .rw[uA]at m;subst m;exact⟨⟨aB,aB⟩,⟨by simp<;>omega,by simp<;>omega⟩,fun q F=>by simp at F;omega,aB⟩
theorem EsI.uok{c:Int}{i:Nat}{l:List Nd}{s:Nat}(h:EsI c i l s)(A:i<=5){d:Int}(Z:0<=d)(Y:d<200):UnOkR (lV l s d):=zc0 (by simp[lV]) (by simp[lV]) (by show Pr.sz ⟨[⟨[97],1⟩],[⟨[102],[],[],[],.mk 1 0 [] 0 []⟩]⟩<2^36;decide) fun g C=>by
 simp only[lV,ff,sm,sn]at C;subst C;have F:=h.len;exact⟨xh,h.ndrG A Z Y⟩
theorem EsI.run{c:Int}{i:Nat}{l:List Nd}{s:Nat}(h:EsI c i l s)(A:i<=5){d:Int}(V:0<=d)(M:d<200)(K:fW (lV l s d)=true):RunTo9 (vO l s d) ⟨2,c,[8],0⟩ where
 uok:=(h.uok A V M).ok
 valid:=K
 f0:=by show(0:Int)<=3;omega
 f1:=by show(3:Int)<=1000;omega
 flat:=fun g C=>by
  simp only[vO,lV,ff,sm,sn]at C;subst C;obtain⟨D,Y⟩:=h.es;have o:=h.len;have hsl:=h.sl;have h4:=h.s4;refine⟨⟨xh,fun n Z=>(h.ndrG A V M n Z).len⟩,fun j J O q F=>?_,fun n Z=>?_⟩
  .by_cases cj:j<l.length
   .rw[my,fz cj]at O;exact Y.den.kids j J O q F
   .have U:j<(l++[(⟨27,d,[(s:Int),2]⟩:Nd)]).length:=(de.1 O).1;rw[ep,B3]at U;have:j=l.length:=ac;subst this;rw[my,fZ ac,gT]at O;simp only[ke,aA]at O;subst O;simp at F;omega
  .rcases oa.1 Z with Z|Z
   .exact Y.flat n Z
   .rw[uA]at Z;subst Z;exact⟨aB,aB⟩
 fn:=by
  obtain⟨D,Y⟩:=h.es;obtain⟨J,I,z⟩:=h.op;have o:=h.len;obtain⟨n,m,e⟩:=Og Y ac h.s4 I z d;exact⟨0,my l s d,n,m,rfl,rfl,e⟩
 arr:=fun a L=>by
  simp only[vO,lV,ff,sm,sn]at L;subst L;exact⟨aB,aB⟩
 args:=by simp[vO]
 out:=aB
noncomputable def C3(o:Oc):En:=⟨14,true,b7 (fun y=>RunTo9 y o) oN fun _=>eG o⟩
theorem zql(ρ:Nat->Int)(o:Oc):yO Tryz.prog ρ (C3 o):=zei fun y O=>zp4 ρ y o O
theorem zc8{tb:List En}{S:Nat->Prop}{n:Nat}{H:Hp}{x:RunX}{o:Oc}(F:∀C,zem tb 14 C=(jS (C3 o)).sp C)(A:ir tb 14=true)(I:RunTo9 x o)(m:n<=60){args:List AV}(O:zeF S n H args (oN x)):zdw Tryz.prog (zdp pls tb) 14 args H fun w H'=>w=eG o/\Icy S H H':=by
 obtain⟨Z,i,g⟩:=O;exact qQ (x:=x) (enc:=oN) (ok:=fun y=>RunTo9 y o) (out:=fun _=>eG o) zqi (fun C=>sk) A zud I ac i (g 60 m)
theorem zyP{P:Program}{cfg:Cfg}{f N:Nat}{a:SC}{E:ax}{H:Hp}{Q:AX->ax->Hp->Prop}(p:Hp->Prop)(Y:p H)(h:∀H',p H'->zdX P cfg f N a E H' Q):zdX P cfg f N a E H Q:=h _ Y
end Go.Proofs.YtljebeflbbgibaaGreat
