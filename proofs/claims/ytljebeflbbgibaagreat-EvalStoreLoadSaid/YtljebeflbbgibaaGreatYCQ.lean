/- Parts: EvX. -/
import Derived.Test.YtljebeflbbgibaaGreatYCP
set_option linter.unusedSimpArgs false
set_option linter.unusedVariables false
set_option linter.unusedSectionVars false
set_option linter.defProp false
set_option maxHeartbeats 32000000
namespace Go.Proofs.YtljebeflbbgibaaGreat
set_option maxRecDepth 20000
open Go Go.Ab
theorem zp3(x y:RunX)(h:oq x=oq y):x=y:=by
 obtain⟨u,m,al,f⟩:=x;obtain⟨Z,L,M,I⟩:=y;simp only[oq,zeT,cS,AV.agg.injEq,AV.str.injEq,AV.lst.injEq,AV.int.injEq,fM,a1]at h;rw[Un.inj h.1,h.2.1,AP h.2.2.1,h.2.2.2]
noncomputable def C7(x:RunX)(o:Oc):En:=⟨14,true,b0 (fun y=>y=x) oq fun _=>cR o⟩
theorem zp4(ρ:Nat->Int){x:RunX}{o:Oc}(h:RunTo9 x o):zdF Tryz.prog ρ (C7 x o):=zdM fun y C=>by subst C;exact zpP ρ y o h
noncomputable def C8:En:=⟨13,true,b0 (fun o=>o.out.length<2^60) (fun o=>[cR o,cR o]) fun _=>.bool true⟩
theorem znL(ρ:Nat->Int):zdF Tryz.prog ρ C8:=zdM fun o J=>ztR ρ o J
noncomputable def K2:En:=⟨15,false,fun args=>p6 knEvEx.list 15 args⟩
theorem zp5(ρ:Nat->Int):zdF Tryz.prog ρ K2:=fun args r hr=>wL (knEvEx.ok ρ) _ args r hr
theorem ztT(y:RunX):(oq y).any (jp 90)=false:=rfl
theorem zcu(y:Un):([.agg y.cells]:List AV).any (jp 90)=false:=rfl
theorem zcv(y:Oc):([cR y,cR y]:List AV).any (jp 90)=false:=rfl
section
variable {tb:List En} {S:Nat -> Prop} {n:Nat} {H:Hp}
theorem zcw{x:RunX}{o:Oc}(I:∀z,zdS tb 14 z=(kI (C7 x o)).sp z)(C:iF tb 14=true)(Z:n<=60){args:List AV}(O:zdQ S n H args (oq x)):zc2 Tryz.prog (zcW pls tb) 14 args H fun w H'=>w=cR o/\Icy S H H':=by
 obtain⟨Y,i,g⟩:=O;exact sM (x:=x) (enc:=oq) (ok:=fun y=>y=x) (out:=fun _=>cR o) zp3 (fun z=>r0) C ztT rfl ac i (g 60 Z)
theorem zcx{u:Un}(I:∀z,zdS tb 12 z=(kI C4).sp z)(C:iF tb 12=true)(Z:UnOkR u)(o:n<60){cs:List AV}(O:zdQ S n H cs u.cells):zc2 Tryz.prog (zcW pls tb) 12 [.agg cs] H fun w H'=>w=.bool (f9 u)/\Icy S H H':=by
 obtain⟨Y,i,g⟩:zdQ S (n+1) H [.agg cs] [.agg u.cells]:=.cons (.agg O) .nil;exact sM (x:=u) (enc:=fun u:Un=>[.agg u.cells]) (ok:=UnOkR) (out:=fun u=>.bool (f9 u)) (fun x y h=>Un.inj iW) (fun z=>r0) C zcu Z ac i (g 60 ac)
theorem zyt(x y:Oc)(h:([cR x,cR x]:List AV)=[cR y,cR y]):x=y:=by
 obtain⟨a,b,c,d⟩:=x;obtain⟨O,i,Z,Y⟩:=y;simp only[cR,zeT,cS,AV.agg.injEq,AV.lst.injEq,AV.int.injEq,fM,a1,mH]at h;rw[h.1,h.2.1,AP h.2.2.1,h.2.2.2]
theorem zcz{o:Oc}(I:∀z,zdS tb 13 z=(kI C8).sp z)(C:iF tb 13=true)(J:o.out.length<2^60)(Z:n<=60){args:List AV}(O:zdQ S n H args [cR o,cR o]):zc2 Tryz.prog (zcW pls tb) 13 args H fun w H'=>w=.bool true/\Icy S H H':=by
 obtain⟨Y,i,g⟩:=O;exact sM (x:=o) (enc:=fun o=>[cR o,cR o]) (ok:=fun o=>o.out.length<2^60) (out:=fun _=>.bool true) zyt (fun z=>r0) C zcv J ac i (g 60 Z)
end
theorem zcA{S:Nat->Prop}{n:Nat}{H:Hp}(l:List Int):eC S (n+1) H (zeT l) (zeT l):=.flat ⟨AQ l,trivial⟩ (zxQ l)
theorem px{S:Nat->Prop}{n:Nat}{H:Hp}(o:Oc):eC S (n+2) H (cR o) (cR o):=nu (.cons (.int _ _) (.cons (.int _ _) (.cons (zcA _) (.cons (.int _ _) .nil))))
theorem py{S T:Nat->Prop}{n:Nat}{H O:Hp}{v w:List AV}(h:zdQ S n H v w)(i:Icy T H O):zdQ S n O v w:=h.frame (fun _ q=>q) (by rw[i.next];exact aM _) fun k _ _=>i.same k
theorem ox{S T:Nat->Prop}{n:Nat}{H:Hp}{v w:List AV}(b:HB)(hS:∀q,S q->T q)(h:zdQ S n H v w):zdQ T n (H.alloc b) v w:=h.keep hS (gm _) fun k _ j=>fK
theorem zcB{u:Un}(F:u.arrays.length<2^30)(j:u.funcs.length<2^30)(m:(gD u).sz<2^36)(h:∀g∈u.funcs,g.nodes.length<2^30/\∀n∈g.nodes,NdR n):UnOkR u:=⟨⟨F,j,fun g U=>⟨(h g U).1,fun n o=>((h g U).2 n o).len⟩,m⟩,fun g U=>(h g U).2⟩
end Go.Proofs.YtljebeflbbgibaaGreat
