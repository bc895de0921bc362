/- Parts: EvX. -/
import Derived.Test.YtljebeflbbgibaaGreatZCP
set_option linter.unusedSimpArgs false
set_option linter.unusedVariables false
set_option linter.unusedSectionVars false
set_option linter.defProp false
set_option maxHeartbeats 32000000
namespace Go.Proofs.YtljebeflbbgibaaGreat
set_option maxRecDepth 20000
open Go Go.Ab
theorem zpX(x y:RunX)(h:od x=od y):x=y:=by
 obtain⟨u,K,al,f⟩:=x;obtain⟨V,I,J,A⟩:=y;simp only[od,jO,cM,AV.agg.injEq,AV.str.injEq,AV.lst.injEq,AV.int.injEq,fH,aY]at h;rw[Un.inj h.1,h.2.1,Aa h.2.2.1,h.2.2.2]
noncomputable def Cs(x:RunX)(o:Oc):En:=⟨14,true,bX (fun y=>y=x) od fun _=>er o⟩
theorem zpY(ρ:Nat->Int){x:RunX}{o:Oc}(h:RunTo9 x o):zdd Tryz.prog ρ (Cs x o):=zdk fun y K=>by subst K;exact zpJ ρ y o h
noncomputable def Ct:En:=⟨13,true,bX (fun o=>o.out.length<2^60) (fun o=>[er o,er o]) fun _=>.bool true⟩
theorem znH(ρ:Nat->Int):zdd Tryz.prog ρ Ct:=zdk fun o J=>ztL ρ o J
noncomputable def Kr:En:=⟨15,false,fun args=>pA knEvEx.list 15 args⟩
theorem zpZ(ρ:Nat->Int):zdd Tryz.prog ρ Kr:=fun args r hr=>v3 (knEvEx.ok ρ) _ args r hr
theorem ztN(y:RunX):(od y).any (ji 90)=false:=rfl
theorem zb3(y:Un):([.agg y.cells]:List AV).any (ji 90)=false:=rfl
theorem zb4(y:Oc):([er y,er y]:List AV).any (ji 90)=false:=rfl
section
variable {tb:List En} {S:Nat -> Prop} {n:Nat} {H:Hp}
theorem zb5{x:RunX}{o:Oc}(I:∀z,zdn tb 14 z=(kD (Cs x o)).sp z)(C:iz tb 14=true)(m:n<=60){args:List AV}(O:zdJ S n H args (od x)):zcx Tryz.prog (zcq pls tb) 14 args H fun w H'=>w=er o/\Icy S H H':=by
 obtain⟨F,i,g⟩:=O;exact r7 (x:=x) (enc:=od) (ok:=fun y=>y=x) (out:=fun _=>er o) zpX (fun z=>rx) C ztN rfl ac i (g 60 m)
theorem zb6{u:Un}(I:∀z,zdn tb 12 z=(kD Cp).sp z)(C:iz tb 12=true)(Z:UnOkR u)(m:n<60){cs:List AV}(O:zdJ S n H cs u.cells):zcx Tryz.prog (zcq pls tb) 12 [.agg cs] H fun w H'=>w=.bool (fV u)/\Icy S H H':=by
 obtain⟨F,i,g⟩:zdJ S (n+1) H [.agg cs] [.agg u.cells]:=.cons (.agg O) .nil;exact r7 (x:=u) (enc:=fun u:Un=>[.agg u.cells]) (ok:=UnOkR) (out:=fun u=>.bool (fV u)) (fun x y h=>Un.inj iQ) (fun z=>rx) C zb3 Z ac i (g 60 ac)
theorem zyo(x y:Oc)(h:([er x,er x]:List AV)=[er y,er y]):x=y:=by
 obtain⟨a,b,c,d⟩:=x;obtain⟨M,i,Z,K⟩:=y;simp only[er,jO,cM,AV.agg.injEq,AV.lst.injEq,AV.int.injEq,fH,aY,mE]at h;rw[h.1,h.2.1,Aa h.2.2.1,h.2.2.2]
theorem zb8{o:Oc}(I:∀z,zdn tb 13 z=(kD Ct).sp z)(C:iz tb 13=true)(J:o.out.length<2^60)(m:n<=60){args:List AV}(O:zdJ S n H args [er o,er o]):zcx Tryz.prog (zcq pls tb) 13 args H fun w H'=>w=.bool true/\Icy S H H':=by
 obtain⟨F,i,g⟩:=O;exact r7 (x:=o) (enc:=fun o=>[er o,er o]) (ok:=fun o=>o.out.length<2^60) (out:=fun _=>.bool true) zyo (fun z=>rx) C zb4 J ac i (g 60 m)
end
theorem zb9{S:Nat->Prop}{n:Nat}{H:Hp}(l:List Int):d5 S (n+1) H (jO l) (jO l):=.flat ⟨Ac l,trivial⟩ (zxL l)
theorem Ks{S:Nat->Prop}{n:Nat}{H:Hp}(o:Oc):d5 S (n+2) H (er o) (er o):=d5.agg (.cons (.int _ _) (.cons (.int _ _) (.cons (zb9 _) (.cons (.int _ _) .nil))))
theorem Kt{S T:Nat->Prop}{n:Nat}{H O:Hp}{v w:List AV}(h:zdJ S n H v w)(i:Icy T H O):zdJ S n O v w:=h.frame (fun _ q=>q) (by rw[i.next];exact aM _) fun k _ _=>i.same k
theorem alC{S T:Nat->Prop}{n:Nat}{H:Hp}{v w:List AV}(b:HB)(hS:∀q,S q->T q)(h:zdJ S n H v w):zdJ T n (H.alloc b) v w:=h.keep hS (f7 _) fun k _ j=>fF
theorem zcb{u:Un}(F:u.arrays.length<2^30)(i:u.funcs.length<2^30)(m:(gl u).sz<2^36)(h:∀g∈u.funcs,g.nodes.length<2^30/\∀n∈g.nodes,NdR n):UnOkR u:=⟨⟨F,i,fun g L=>⟨(h g L).1,fun n Z=>((h g L).2 n Z).len⟩,m⟩,fun g L=>(h g L).2⟩
end Go.Proofs.YtljebeflbbgibaaGreat
