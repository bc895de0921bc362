/- Parts: Rep6, Rep6c, L4b, P4e, V5, SemT, SemV, SpecL, LoK, SpecM, SpecN, SpecT, Rg, G1. -/
import Derived.Test.YtpbcimfiofmoeaaSIH
set_option linter.unusedSimpArgs false
set_option linter.unusedVariables false
set_option linter.unusedSectionVars false
set_option linter.defProp false
set_option maxHeartbeats 32000000
namespace Go.Ab
set_option maxRecDepth 20000
open Go
theorem zio {P:Program}{H:Hp}{t kt e r:Nat}{es:List (AV×AV)}{nm:Nm}{z:AV} (ht:P.underlying t=some (.map kt e)) (hk:zal P kt=some .string) (hz:zfi P e=some z) (hg:H.get r=some (.map es)) :
 (jn .string (.str nm) es 0=some none→jk P H t (.map r) (.str nm) false=some z)∧∀ i v,jn .string (.str nm) es 0=some (some (i,v))→jk P H t (.map r) (.str nm) false=some v:=by
 refine⟨fun h=>?_,fun i v h=>?_⟩<;>simp only[jk,ht,hk,hz,zb2,hg,h,okOr]
theorem ze9 {P:Program}{H:Hp}{t kt e r:Nat}{es:List (AV×AV)}{nm:Nm}{x:AV} (ht:P.underlying t=some (.map kt e)) (hk:zal P kt=some .string) (hg:H.get r=some (.map es)) :
 (jn .string (.str nm) es 0=some none→yZ P H t (.map r) (.str nm) x=some (H.set r (.map (es++[(.str nm,x)]))))∧∀ i v,jn .string (.str nm) es 0=some (some (i,v))→yZ P H t (.map r) (.str nm) x=some (H.set r (.map (es.set i (.str nm,x)))):=by
 refine⟨fun h=>?_,fun i v h=>?_⟩<;>simp only[yZ,ht,hk,hg,h]
theorem zip {P:Program}{H:Hp}{t kt e r:Nat} (ht:P.underlying t=some (.map kt e)) (hk:zal P kt=some .string) (hz:zfi P e=some (.int .i64 0)) {vs:List (Nm×Int)} (hg:H.get r=some (.map (vEs vs))) (nm:Nm) :
 jk P H t (.map r) (.str nm) false=some (.int .i64 (lkV vs nm)):=by
 obtain⟨l1,l2⟩:=zio (nm:=nm) ht hk hz hg
 rcases zin nm vs 0 with ⟨h1,h2,h3⟩|⟨j,hj,h1,h3⟩
 ·rw[l1 h1,h2]
 ·rw[l2 _ _ h1]
theorem zfR {P:Program}{H:Hp}{t kt e r:Nat} (ht:P.underlying t=some (.map kt e)) (hk:zal P kt=some .string) {vs:List (Nm×Int)} (hg:H.get r=some (.map (vEs vs))) (nm:Nm) (x:Int) :
 yZ P H t (.map r) (.str nm) (.int .i64 x)=some (H.set r (.map (vEs (setV vs nm x)))):=by
 obtain⟨l1,l2⟩:=ze9 (nm:=nm) (x:=.int .i64 x) ht hk hg
 rcases zin nm vs 0 with ⟨h1,h2,h3⟩|⟨j,hj,h1,h3⟩
 ·rw[l1 h1,h3]
 ·rw[l2 _ _ h1,h3,Nat.zero_add]
def zdr:List Fu→Nat→List (Nm×Int)→List (Nm×Int)
 | [],_,m=>m
 | f::l,i,m=>zdr l (i+1) (setV m f.name i)
def zbO:List (Nm×Int)→Nm→Bool
 | [],_=>false
 | p::l,nm=>if nm=p.1 then true else zbO l nm
theorem ziq (nm:Nm):∀ (vs:List (Nm×Int)) (i:Nat),(zbO vs nm=false→jn .string (.str nm) (vEs vs) i=some none∧lkV vs nm=0)∧(zbO vs nm=true→∃ j,jn .string (.str nm) (vEs vs) i=some (some (j,.int .i64 (lkV vs nm))))
 | [],i=>⟨fun _=>⟨rfl,rfl⟩,fun h=>by simp[zbO]at h⟩
 | p::l,i=>by
   by_cases h:nm=p.1
   ·refine⟨fun h2=>by simp[zbO,h]at h2,fun _=>⟨i,?_⟩⟩
    simp[vEs,jn,zhd,lkV,h]
   ·have hf:jn .string (.str nm) (vEs (p::l)) i=jn .string (.str nm) (vEs l) (i+1):=by
     show jn .string (.str nm) ((.str p.1,.int .i64 p.2)::vEs l) i=_
     have:(nm == p.1)=false:=by simpa using h
     simp[jn,zhd,this]
    have hl:lkV (p::l) nm=lkV l nm:=by simp[lkV,h]
    have hh:zbO (p::l) nm=zbO l nm:=by simp[zbO,h]
    rw[hf,hl,hh]
    exact ziq nm l (i+1)
theorem zn3 {P:Program}{H:Hp}{t kt e r:Nat} (ht:P.underlying t=some (.map kt e)) (hk:zal P kt=some .string) (hz:zfi P e=some (.int .i64 0)) {vs:List (Nm×Int)} (hg:H.get r=some (.map (vEs vs))) (nm:Nm) :
 jk P H t (.map r) (.str nm) true=some (.tup [.int .i64 (lkV vs nm),.bool (zbO vs nm)]):=by
 obtain⟨h1,h2⟩:=ziq nm vs 0
 cases hh:zbO vs nm with
 | false=>
   obtain⟨g1,g2⟩:=h1 hh
   simp only[jk,ht,hk,hz,zb2,hg,g1,okOr,g2]
 | true=>
   obtain⟨j,g1⟩:=h2 hh
   simp only[jk,ht,hk,zb2,hg,g1,okOr]
end Go.Ab
namespace Go.Proofs.Ytpbcimfiofmoeaa
set_option maxRecDepth 20000
open Go Go.Ab
def jv (p:Pr):List (List UInt8):=p.funcs.map (·.name)
def zhh (p:Pr):Bool:=zO [] (zD p)||zO [] (jv p)||p.funcs.any fun f=>zO [] (zD p++(f.params++f.locals))
theorem zd3:∀ (a b seen:List (List UInt8)),zO seen (a++b)=(zO seen a||zO (seen++a) b)
 | [],b,seen=>by simp[zO]
 | x::a,b,seen=>by rw[List.cons_append,zO,zO,zd3 a b,List.append_assoc,List.singleton_append,Bool.or_assoc]
theorem zeq (an:List (List UInt8)):∀ (fs:List Fu) (seen:List (List UInt8)),zim an seen fs=(zO seen (fs.map (·.name))||fs.any fun f=>zO an (f.params++f.locals))
 | [],seen=>rfl
 | f::fs,seen=>by
   rw[zim,List.map_cons,zO,List.any_cons,zeq an fs]
   cases yC seen f.name<;>cases zO an (f.params++f.locals)<;>cases zO (seen++[f.name]) (fs.map (·.name))<;>rfl
theorem zn4 (p:Pr):zhh p=zgw p:=by
 rw[zhh,zgw,zeq]
 cases h:zO [] (zD p)
 ·have e:(fun f:Fu=>zO [] (zD p++(f.params++f.locals)))=fun f=>zO (zD p) (f.params++f.locals):=by
   funext f;rw[zd3,h];rfl
  rw[e];rfl
 ·rfl
def jF:List Fu→List (Nm×Int)→List (Nm×Int)
 | [],m=>m
 | f::l,m=>jF l (setV m f.name f.params.length)
theorem zfa (s a:Nm) (x:Int):∀ m:List (Nm×Int),lkV (setV m a x) s=if s=a then x else lkV m s
 | []=>by simp[setV,lkV]
 | q::l=>by
   by_cases h:a=q.1
   ·simp only[setV,h,if_true,lkV]
    split<;>rfl
   ·simp only[setV,h,if_false,lkV,zfa s a x l]
    by_cases h2:s=q.1
    ·rw[if_pos h2,if_pos h2,if_neg (fun e=>h (by rw[← e,h2]))]
    ·rw[if_neg h2,if_neg h2]
theorem zn5 (s a:Nm) (x:Int):∀ m:List (Nm×Int),zbO (setV m a x) s=(decide (s=a)||zbO m s)
 | []=>by
   by_cases h:s=a<;>simp[setV,zbO,h]
 | q::l=>by
   by_cases h:a=q.1
   ·by_cases h2:s=q.1<;>simp[setV,zbO,h,h2]
   ·have e:=zn5 s a x l
    by_cases h2:s=q.1
    ·simp[setV,zbO,h,h2]
    ·simp[setV,zbO,h,h2,e]
theorem yT (a b:List (List UInt8)) (s:List UInt8):yC (a++b) s=(yC a s||yC b s):=by unfold yC;rw[List.any_append]
theorem zaL (a s:List UInt8):yC [a] s=decide (s=a):=by
 unfold yC;simp only[List.any_cons,List.any_nil,Bool.or_false]
 by_cases h:s=a
 ·simp[h]
 ·have:¬ a=s:=fun e=>h e.symm
  simp[h,this]
theorem zjo (s:Nm):∀ (l:List Fu) (m:List (Nm×Int)),zbO (jF l m) s=(zbO m s||yC (l.map (·.name)) s)
 | [],m=>by simp[jF,yC]
 | f::l,m=>by
   rw[jF,zjo s l,zn5,List.map_cons,show f.name::l.map (·.name)=[f.name]++l.map (·.name)from rfl,yT,zaL]
   cases decide (s=f.name)<;>cases zbO m s<;>simp
theorem zjp (s:Nm):∀ (l:List Fu) (m:List (Nm×Int)),yC (l.map (·.name)) s=false→lkV (jF l m) s=lkV m s
 | [],m,_=>rfl
 | f::l,m,h=>by
   rw[List.map_cons,show f.name::l.map (·.name)=[f.name]++l.map (·.name)from rfl,yT,zaL,Bool.or_eq_false_iff,decide_eq_false_iff_not]at h
   rw[jF,zjp s l _ h.2,zfa,if_neg h.1]
theorem zcE:∀ (l seen:List (List UInt8)),zO seen l=false→∀ s,yC seen s=true→yC l s=false
 | [],_,_,_,_=>rfl
 | a::l,seen,h,s,hs=>by
   rw[zO,Bool.or_eq_false_iff]at h
   rw[show a::l=[a]++l from rfl,yT,zaL,zcE l _ h.2 s (by rw[yT,hs];rfl),Bool.or_false,decide_eq_false_iff_not]
   intro e;rw[← e]at h;rw[hs]at h;simp at h
theorem zir:∀ (l:List Fu) (s:List UInt8) (i:Int),0≤i→(yC (l.map (·.name)) s=decide (0≤yn l s i))
 | [],s,i,_=>by simp[yC,yn]
 | f::l,s,i,hi=>by
   rw[List.map_cons,show f.name::l.map (·.name)=[f.name]++l.map (·.name)from rfl,yT,zaL,yn]
   by_cases h:f.name=s
   ·rw[if_pos h,decide_eq_true h.symm,Bool.true_or];simpa using hi
   ·rw[if_neg h,decide_eq_false (fun e=>h e.symm),Bool.false_or,zir l s (i+1) (by omega)]
theorem zjq (p:Pr) (s:Nm):∀ (l:List Fu) (seen:List (List UInt8)) (m:List (Nm×Int)) (i:Nat),p.funcs.drop i=l→zO seen (l.map (·.name))=false→0≤yn l s i →
 ∃ f,p.funcs[(yn l s i).toNat]?=some f∧lkV (jF l m) s=f.params.length
 | [],_,_,i,_,_,h=>by simp[yn]at h
 | f::l,seen,m,i,hd,hn,h=>by
   have hlt:i < p.funcs.length:=by
    have:=congrArg List.length hd;simp at this;omega
   rw[List.drop_eq_getElem_cons hlt,List.cons.injEq]at hd
   rw[List.map_cons,zO,Bool.or_eq_false_iff]at hn
   rw[yn]at h ⊢
   by_cases e:f.name=s
   ·rw[if_pos e]
    refine⟨f,?_,?_⟩
    ·rw[Int.toNat_natCast,List.getElem?_eq_getElem hlt,hd.1]
    ·have h3:yC (l.map (·.name)) s=false:=zcE _ _ hn.2 s (by rw[yT,zaL,decide_eq_true e.symm,Bool.or_true])
     rw[jF,zjp s l _ h3,zfa,if_pos e.symm]
   ·rw[if_neg e]at h ⊢
    exact zjq p s l (seen++[f.name]) _ (i+1) hd.2 hn.2 h
theorem zuW (p:Pr) (s:Nm):zbO (jF p.funcs []) s=decide (0≤yn p.funcs s 0):=by
 rw[zjo,zir _ _ 0 (by omega)];rfl
theorem lkV_fn {p:Pr} (hd:zO [] (jv p)=false) {s:Nm} (h:0≤yn p.funcs s 0):lkV (jF p.funcs []) s=zi4 p s:=by
 obtain⟨f,h1,h2⟩:=zjq p s p.funcs [] [] 0 rfl hd h
 have h1':p.funcs[(yn p.funcs s 0).toNat]?=some f:=h1
 rw[h2,zi4,h1'];rfl
def rsS (fm:List (Nm×Int)) (vs an:List (List UInt8)) (x:St) (_:Int) (w:Bool):Bool×Bool:=
 if x.kind=1 then (yC vs x.name,w)
 else if x.kind=2 then (yC an x.name,w)
 else if x.kind=6 then (zbO fm x.to&&yC vs x.name,w||(zbO fm x.to && !decide (lkV fm x.to=(x.args.length:Int))))
 else (true,w)
def zds (fm:List (Nm×Int)) (an:List (List UInt8)):List Fu→Bool→Int
 | [],w=>if w=true then 5 else 0
 | f::fs,w=>if zbN (fun x _=>zcq (f.params++f.locals) an x) f=true∧(yS (rsS fm (f.params++f.locals) an) f.body 0 w).1=true then zds fm an fs (yS (rsS fm (f.params++f.locals) an) f.body 0 w).2 else 3
def zm5 (p:Pr):Int:=zds (jF p.funcs []) (zD p) p.funcs false
def zis (p:Pr):Int:=if zdW p=false then 6 else if wfP p=false then 2 else if zhh p=true then 4 else zm5 p
mutual
theorem zgx (vs an:List (List UInt8)):∀ (x:Ex) (d:Int),zch (fun x _=>zcq vs an x) x d=zaw vs an x
 | .mk k n s o ks,d=>by rw[zch,zaw,zfb vs an ks,Bool.and_comm]
theorem zfb (vs an:List (List UInt8)):∀ (l:List Ex) (d:Int),jN (fun x _=>zcq vs an x) l d=jS vs an l
 | [],_=>rfl
 | x::l,d=>by rw[jN,jS,zgx vs an x,zfb vs an l]
end
section
variable (c:Sc)
mutual
def zit:St→Bool
 | .mk _ _ _ _ a v args th el=>zaw c.vars c.an a&&zaw c.vars c.an v&&jS c.vars c.an args&&zc1 th&&zc1 el
def zc1:List St→Bool
 | []=>true
 | x::l=>zit x&&zc1 l
end
mutual
def zg5:St→Bool
 | .mk k nm to n a v args th el=>zak c (.mk k nm to n a v args th el)&&zbq th&&zbq el
def zbq:List St→Bool
 | []=>true
 | x::l=>zg5 x&&zbq l
end
mutual
theorem zuX:∀ (x:St) (d:Int),zbo (zhg fun x _=>zcq c.vars c.an x) x d ()=(zit c x,())
 | .mk k nm to n a v args th el,d=>by
   rw[zbo,zhg,zit]
   simp only[St.at_,St.value,St.args,zgx,zfb]
   cases h:zaw c.vars c.an a&&zaw c.vars c.an v&&jS c.vars c.an args
   ·simp
   ·simp only[zht th,Bool.true_and]
    cases h2:zc1 c th
    ·simp
    ·simp only[zht el,Bool.true_and]
theorem zht:∀ (l:List St) (d:Int),yS (zhg fun x _=>zcq c.vars c.an x) l d ()=(zc1 c l,())
 | [],_=>rfl
 | x::l,d=>by
   rw[yS,zuX x,zc1]
   cases h:zit c x
   ·simp
   ·simp only[zht l,Bool.true_and]
end
mutual
theorem zuY:∀ x:St,zbA c false x=(zit c x&&zg5 c x)
 | .mk k nm to n a v args th el=>by
   rw[zbA,zit,zg5,zhu th,zhu el,cond_false,zcl]
   simp only[St.at_,St.value,St.args]
   cases zaw c.vars c.an a<;>cases zaw c.vars c.an v<;>cases jS c.vars c.an args<;>cases zak c (.mk k nm to n a v args th el)<;>cases zc1 c th<;>cases zbq c th<;>cases zc1 c el<;>cases zbq c el<;>rfl
theorem zhu:∀ l:List St,je c false l=(zc1 c l&&zbq c l)
 | []=>rfl
 | x::l=>by
   rw[je,zc1,zbq,zuY x,zhu l]
   cases zit c x<;>cases zg5 c x<;>cases zc1 c l<;>cases zbq c l<;>rfl
end
end
theorem rsS_k {p:Pr} (hd:zO [] (jv p)=false) (c:Sc) (hc:c.p=p) (x:St) (d:Int) (w:Bool) :
 (zak c x=true→rsS (jF p.funcs []) c.vars c.an x d w=(true,w || !arK p x))∧(zak c x=false→(rsS (jF p.funcs []) c.vars c.an x d w).1=false):=by
 unfold rsS zak arK
 rw[hc]
 by_cases h1:x.kind=1
 ·have h6:¬ x.kind=6:=by omega
  simp only[h1,if_true,Int.reduceEq,decide_false,Bool.false_and,Bool.not_false,Bool.not_true,Bool.or_false]
  exact⟨fun h=>by rw[h],fun h=>h⟩
 ·by_cases h6:x.kind=6
  ·simp only[h6,Int.reduceEq,if_false,if_true,decide_true,Bool.true_and,Bool.not_not,zuW]
   cases h:decide (0≤yn p.funcs x.to 0)
   ·simp
   ·rw[lkV_fn hd (of_decide_eq_true h),Bool.and_true,Bool.true_and,Bool.true_and]
    refine⟨fun h=>?_,fun h=>h⟩
    rw[h]
    have e:decide ((zi4 p x.to:Int)=(x.args.length:Int))=decide ((x.args.length:Int)=(zi4 p x.to:Int)):=by
     by_cases q:(zi4 p x.to:Int)=(x.args.length:Int)
     ·rw[decide_eq_true q,decide_eq_true q.symm]
     ·rw[decide_eq_false q,decide_eq_false (fun e=>q e.symm)]
    rw[e]
  ·by_cases h2:x.kind=2
   ·simp only[h2,Int.reduceEq,if_false,if_true,decide_false,Bool.false_and,Bool.not_false,Bool.not_true,Bool.or_false]
    exact⟨fun h=>by rw[h],fun h=>h⟩
   ·simp only[h1,h2,h6,if_false,decide_false,Bool.false_and,Bool.not_false,Bool.not_true,Bool.or_false]
    exact⟨fun _=>by simp,fun h=>by simp at h⟩
section
variable {p:Pr} (hd:zO [] (jv p)=false) (c:Sc) (hc:c.p=p)
include hd hc
mutual
theorem zuZ:∀ (x:St) (d:Int) (w:Bool),(zg5 c x=true→zbo (rsS (jF p.funcs []) c.vars c.an) x d w=(true,w || !zbA c true x))∧(zg5 c x=false→(zbo (rsS (jF p.funcs []) c.vars c.an) x d w).1=false)
 | .mk k nm to n a v args th el,d,w=>by
   have h0:=rsS_k hd c hc (.mk k nm to n a v args th el) d w
   rw[zbo,zg5,zbA,cond_true,hc]
   cases e0:zak c (.mk k nm to n a v args th el)
   ·have:=h0.2 e0
    generalize rsS _ _ _ _ _ _=r at this ⊢
    obtain⟨b,s⟩:=r
    simp only at this
    subst this
    simp
   ·rw[h0.1 e0]
    simp only[Bool.true_and]
    have h1:=zhv th (w64 (d+1)) (w || !arK p (.mk k nm to n a v args th el))
    cases e1:zbq c th
    ·have:=h1.2 e1
     generalize yS _ th _ _=r at this ⊢
     obtain⟨b,s⟩:=r
     simp only at this
     subst this
     simp
    ·rw[h1.1 e1]
     simp only[Bool.true_and]
     have h2:=zhv el (w64 (d+1)) ((w || !arK p (.mk k nm to n a v args th el)) || !je c true th)
     cases e2:zbq c el
     ·exact⟨fun h=>by simp at h,fun _=>h2.2 e2⟩
     ·refine⟨fun _=>?_,fun h=>by simp at h⟩
      rw[h2.1 e2]
      congr 1
      cases w<;>cases arK p (.mk k nm to n a v args th el)<;>cases je c true th<;>cases je c true el<;>rfl
theorem zhv:∀ (l:List St) (d:Int) (w:Bool),(zbq c l=true→yS (rsS (jF p.funcs []) c.vars c.an) l d w=(true,w || !je c true l))∧(zbq c l=false→(yS (rsS (jF p.funcs []) c.vars c.an) l d w).1=false)
 | [],d,w=>by
   rw[yS,zbq,je]
   exact⟨fun _=>by simp,fun h=>by simp at h⟩
 | x::l,d,w=>by
   have h0:=zuZ x d w
   rw[yS,zbq,je]
   cases e0:zg5 c x
   ·have:=h0.2 e0
    generalize zbo _ x _ _=r at this ⊢
    obtain⟨b,s⟩:=r
    simp only at this
    subst this
    simp
   ·rw[h0.1 e0]
    simp only[Bool.true_and]
    have h2:=zhv l d (w || !zbA c true x)
    cases e2:zbq c l
    ·exact⟨fun h=>by simp at h,fun _=>h2.2 e2⟩
    ·refine⟨fun _=>?_,fun h=>by simp at h⟩
     rw[h2.1 e2]
     congr 1
     cases w<;>cases zbA c true x<;>cases je c true l<;>rfl
end
end
theorem zjr {p:Pr} (hd:zO [] (jv p)=false):∀ (l:List Fu) (w:Bool),zds (jF p.funcs []) (zD p) l w=if l.any (zbS p)=true then 3 else if (w||l.any (zcD p))=true then 5 else 0
 | [],w=>by simp[zds]
 | f::fs,w=>by
   have hk:=zhv hd (j7 p f) rfl f.body 0 w
   have hv:(j7 p f).vars=f.params++f.locals:=rfl
   have ha:(j7 p f).an=zD p:=rfl
   rw[hv,ha]at hk
   have he:zbN (fun x _=>zcq (f.params++f.locals) (zD p) x) f=(zaw (f.params++f.locals) (zD p) f.value&&zc1 (j7 p f) f.body):=by
    rw[zbN,zgx]
    have:=zht (j7 p f) f.body 0
    rw[hv,ha]at this
    rw[this]
   have hu:zbS p f=!(zbN (fun x _=>zcq (f.params++f.locals) (zD p) x) f&&zbq (j7 p f) f.body):=by
    rw[zbS,he,zhu,hv,ha]
    cases zaw (f.params++f.locals) (zD p) f.value<;>cases zc1 (j7 p f) f.body<;>cases zbq (j7 p f) f.body<;>rfl
   rw[zds,List.any_cons,List.any_cons,hu]
   cases h1:zbN (fun x _=>zcq (f.params++f.locals) (zD p) x) f
   ·simp
   ·cases h2:zbq (j7 p f) f.body
    ·simp[hk.2 h2]
    ·rw[hk.1 h2]
     simp only[and_self,if_true,Bool.and_self,Bool.not_true,Bool.false_or]
     rw[zjr hd fs]
     congr 2
     rw[zcD]
     cases w<;>simp
theorem zlK (p:Pr):zis p=yH p:=by
 unfold zis yH
 rw[zuU,zn4]
 cases h1:exB p
 ·simp only[Bool.not_false,Bool.true_eq_false,Bool.false_eq_true,if_false]
  cases h2:wfP p
  ·rfl
  ·simp only[Bool.true_eq_false,if_false]
   cases h3:zgw p
   ·simp only[Bool.false_eq_true,if_false]
    have hd:zO [] (jv p)=false:=by
     rw[← zn4,zhh,Bool.or_eq_false_iff,Bool.or_eq_false_iff]at h3
     exact h3.1.2
    rw[zm5,zjr hd]
    simp
   ·rfl
 ·rfl
namespace tyP4e
def tyF:=And.intro @tq3 (And.intro @tq9 (And.intro @zfG (And.intro @zgk (And.intro @zcp (And.intro @zcg (And.intro @zbb (And.intro @zay (And.intro @zfH (And.intro @zqw (And.intro @zj7 (And.intro @zp9 (@bsS1))))))))))))
end tyP4e
open tyP4e
noncomputable def code82:{ c:SC // slim 28 (Try.f82.body.getD .skip)=c }:=by
 refine⟨?_,?_⟩
 rotate_left
 ·simp only[Try.f82,Option.getD_some,slim,zT,zR,zY,zZ,Nat.blt,Nat.ble]
  rfl
noncomputable def code81:{ c:SC // slim 38 (Try.f81.body.getD .skip)=c }:=by
 refine⟨?_,?_⟩
 rotate_left
 ·simp only[Try.f81,Option.getD_some,slim,zT,zR,zY,zZ,Nat.blt,Nat.ble]
  rfl
noncomputable def code45:{ c:SC // slim 35 (Try.f45.body.getD .skip)=c }:=by
 refine⟨?_,?_⟩
 rotate_left
 ·simp only[Try.f45,Option.getD_some,slim,zT,zR,zY,zZ,Nat.blt,Nat.ble]
  rfl
def bEs (l:List (List UInt8)):List (AV×AV):=l.map fun s=>(.str s,.bool true)
def zlL (l:List (List UInt8)) (s:List UInt8):List (List UInt8):=if yC l s=true then l else l++[s]
theorem zd4 (s:List UInt8):∀ (l:List (List UInt8)) (i:Nat),(yC l s=false→jn .string (.str s) (bEs l) i=some none)∧(yC l s=true→∃ j,jn .string (.str s) (bEs l) i=some (some (i+j,.bool true))∧(bEs l).set j (.str s,.bool true)=bEs l)
 | [],i=>⟨fun _=>rfl,fun h=>by simp[yC]at h⟩
 | a::l,i=>by
   have hh:yC (a::l) s=(decide (s=a)||yC l s):=by rw[show a::l=[a]++l from rfl,yT,zaL]
   by_cases h:s=a
   ·subst h
    rw[hh,decide_eq_true rfl,Bool.true_or]
    refine⟨fun h=>by simp at h,fun _=>⟨0,?_,?_⟩⟩
    ·simp[bEs,jn,zhd]
    ·simp[bEs]
   ·have hf:jn .string (.str s) (bEs (a::l)) i=jn .string (.str s) (bEs l) (i+1):=by
     show jn .string (.str s) ((.str a,.bool true)::bEs l) i=_
     have:(s == a)=false:=by simpa using h
     simp[jn,zhd,this]
    rw[hh,decide_eq_false h,Bool.false_or,hf]
    obtain⟨g1,g2⟩:=zd4 s l (i+1)
    refine⟨g1,fun q=>?_⟩
    obtain⟨j,g3,g4⟩:=g2 q
    exact⟨j+1,by rw[g3,show i+1+j=i+(j+1) by omega],by show(AV.str a,AV.bool true)::(bEs l).set j _=_;rw[g4];rfl⟩
theorem zc2 {H:Hp}{r:Nat}{l:List (List UInt8)} (hg:H.get r=some (.map (bEs l))) (s:List UInt8):jk Try.prog H 140 (.map r) (.str s) false=some (.bool (yC l s)):=by
 obtain⟨l1,l2⟩:=zio (P:=Try.prog) (H:=H) (t:=140) (nm:=s) (z:=.bool false) Try.underlying140 (by kernel_rfl) (by kernel_rfl) hg
 cases h:yC l s with
 | false=>rw[l1 ((zd4 s l 0).1 h)]
 | true=>obtain⟨j,h1,h2⟩:=(zd4 s l 0).2 h;rw[l2 _ _ h1]
theorem zn6 {H:Hp}{r:Nat}{l:List (List UInt8)} (hg:H.get r=some (.map (bEs l))) (s:List UInt8):yZ Try.prog H 140 (.map r) (.str s) (.bool true)=some (H.set r (.map (bEs (zlL l s)))):=by
 obtain⟨l1,l2⟩:=ze9 (P:=Try.prog) (H:=H) (t:=140) (nm:=s) (x:=.bool true) Try.underlying140 (by kernel_rfl) hg
 cases h:yC l s with
 | false=>rw[l1 ((zd4 s l 0).1 h),zlL,h];simp[bEs]
 | true=>obtain⟨j,h1,h2⟩:=(zd4 s l 0).2 h;rw[l2 _ _ h1,Nat.zero_add,h2,zlL,if_pos h]
def rwE (x:List (List (List UInt8))):List AV:=[.lst (x.map fun l=>[jg l])]
theorem zu0 (x y:List (List (List UInt8))) (h:rwE x=rwE y):x=y:=by
 simp only[rwE,List.cons.injEq,AV.lst.injEq,and_true]at h
 exact zaa (fun a _ b e=>by simp only[List.cons.injEq,AV.lst.injEq,and_true]at e;exact zfK e) h
def rwOk (x:List (List (List UInt8))):Prop:=x.length < 2 ^ 60∧∀ l∈x,l.length < 2 ^ 60
theorem zu1 (x:List (List (List UInt8))):zar (.lst (x.map fun l=>[jg l])):=.map fun l _=>.cons (zcX l) .nil
theorem zm6 (ρ:Nat→Int) (x:List (List (List UInt8))) (hx:rwOk x):Con Try.prog ρ 82 (rwE x) (.bool (zO [] x.flatten)):=yO fit (pls:=pls) (l:=[]) trivial (.cons (zu1 x) .nil) (.bool _) (by
 have hw:=ju 82
 obtain⟨hx1,hx2⟩:=hx
 rw[rwE]
 refine zi (M:=28) (rs:=[.tmp 2]) (hw.call _) hw.ice hw.froz Try.func82 rfl rfl code82.2 rfl ?_;dsimp only[code82,zH,Nat.reduceAdd]
 repeat' (first
  | (apply Rx.nl ?_;clear hK K)|apply Rx.o ?_|apply Rx.on ?_|(apply Rx.cd (fun hb hbp=>?_) (fun hb hbp=>?_)<;>try (cases hb;done))|apply Wp.seq ?_|(apply zd fun K hK=>?_)|apply Wp.block ?_|apply zh ?_|apply Rx.rt ?_|apply zj ?_)
 refine yj [3,9,10] [] 11 x.length (fun i E H=>∃ seen,H.get 0=some (.map (bEs seen))∧zO [] x.flatten=zO seen (x.drop i).flatten) eE ⟨[],by rw[za,if_pos (by rfl)];rfl,rfl⟩ ?_
 rintro i E H2 hi hcE hrH hnH hsI ⟨seen,hm,hJ⟩
 (try simp only[zk,zl,and_true,sB,sO,Nat.reduceBEq,Nat.reduceAdd,Nat.reduceLeDiff,tyF, *]at hcE)
 (try simp only[zk,zl,and_true,sB,sO,Nat.reduceBEq,Nat.reduceAdd,Nat.reduceLeDiff,tyF, *]at hrH)
 (try simp only[zb,ze,zM,Nat.zero_add,Nat.reduceAdd]at hnH)
 repeat' (first
  | (apply Rx.nl ?_;clear hK K)|apply Rx.o ?_|apply Rx.on ?_|(apply Rx.cd (fun hb hbp=>?_) (fun hb hbp=>?_)<;>try (cases hb;done))|apply Wp.seq ?_|(apply zd fun K hK=>?_)|apply Wp.block ?_|apply zh ?_|apply Rx.rt ?_|apply zj ?_)
 ·have hlt:i < x.length:=by simpa using hb
  have hgx:x[i]?=some x[i]:=List.getElem?_eq_getElem hlt
  have hsm:=hx2 _ (List.getElem_mem hlt)
  have hdr:(x.drop i).flatten=x[i]++(x.drop (i+1)).flatten:=by rw[List.drop_eq_getElem_cons hlt,List.flatten_cons]
  rw[hdr]at hJ
  clear hdr
  generalize x[i]=row at *
  repeat' (first
   | (apply Rx.nl ?_;clear hK K)|apply Rx.o ?_|apply Rx.on ?_|(apply Rx.cd (fun hb hbp=>?_) (fun hb hbp=>?_)<;>try (cases hb;done))|apply Wp.seq ?_|(apply zd fun K hK=>?_)|apply Wp.block ?_|apply zh ?_|apply Rx.rt ?_|apply zj ?_)
  refine yj [3,9,10,11,15,16] [] 17 row.length (fun j E H=>∃ seen,H.get 0=some (.map (bEs seen))∧zO [] x.flatten=zO seen (row.drop j++(x.drop (i+1)).flatten)) eE ⟨seen,hm,hJ⟩ ?_
  clear hm hJ seen
  rintro j E3 H3 hj hcE hrH hnH hsI ⟨seen,hm,hJ⟩
  (try simp only[zk,zl,and_true,sB,sO,Nat.reduceBEq,Nat.reduceAdd,Nat.reduceLeDiff,tyF, *]at hcE)
  (try simp only[zk,zl,and_true,sB,sO,Nat.reduceBEq,Nat.reduceAdd,Nat.reduceLeDiff,tyF, *]at hrH)
  (try simp only[zb,ze,zM,Nat.zero_add,Nat.reduceAdd]at hnH)
  repeat' (first
   | (apply Rx.nl ?_;clear hK K)|apply Rx.o ?_|apply Rx.on ?_|(apply Rx.cd (fun hb hbp=>?_) (fun hb hbp=>?_)<;>try (cases hb;done))|apply Wp.seq ?_|(apply zd fun K hK=>?_)|apply Wp.block ?_|apply zh ?_|apply Rx.rt ?_|apply zj ?_)
  ·have hlt2:j < row.length:=by simpa using hb
   have hgx2:row[j]?=some row[j]:=List.getElem?_eq_getElem hlt2
   have hdr:zO seen (row.drop j++(x.drop (i+1)).flatten)=(yC seen row[j]||zO (seen++[row[j]]) (row.drop (j+1)++(x.drop (i+1)).flatten)):=by rw[List.drop_eq_getElem_cons hlt2];rfl
   have hlk:=zc2 hm row[j]
   have hup:=zn6 hm row[j]
   repeat' (first
    | (apply Rx.nl ?_;clear hK K)|apply Rx.o ?_|apply Rx.on ?_|(apply Rx.cd (fun hb hbp=>?_) (fun hb hbp=>?_)<;>try (cases hb;done))|apply Wp.seq ?_|(apply zd fun K hK=>?_)|apply Wp.block ?_|apply zh ?_|apply Rx.rt ?_|apply zj ?_)
   ·all_goals (refine⟨eI,_,eR,?_⟩;try simp only[zp])
    rw[hJ,hdr];(try simp only[Bool.not_eq_true',Bool.not_eq_false']at *);simp only[*,decide_true,decide_false,Bool.false_or,Bool.or_false,Bool.true_or,Bool.or_true,Bool.false_and,Bool.and_false,Bool.true_and,Bool.and_true,Bool.not_true,Bool.not_false,if_true,if_false,Int.reduceEq]
   ·refine⟨by omega,eL,eL,eN,(by simp only[sB,Nat.reduceBEq, *];exact z7 (n:=row.length) (by omega) (by omega)),?_⟩
    refine⟨zlL seen row[j],by rw[Hp.get_set,if_pos (by rfl)],?_⟩
    rw[hJ,hdr,zlL];(try simp only[Bool.not_eq_true',Bool.not_eq_false']at *);simp only[*,decide_true,decide_false,Bool.false_or,Bool.or_false,Bool.true_or,Bool.or_true,Bool.false_and,Bool.and_false,Bool.true_and,Bool.and_true,Bool.not_true,Bool.not_false,if_true,if_false,Int.reduceEq];rfl
  ·have hje:j=row.length:=by simp at hb;omega
   repeat' (first
    | (apply Rx.nl ?_;clear hK K)|apply Rx.o ?_|apply Rx.on ?_|(apply Rx.cd (fun hb hbp=>?_) (fun hb hbp=>?_)<;>try (cases hb;done))|apply Wp.seq ?_|(apply zd fun K hK=>?_)|apply Wp.block ?_|apply zh ?_|apply Rx.rt ?_|apply zj ?_)
   refine⟨by omega,eL,eL,eN,(by simp only[sB,Nat.reduceBEq, *];exact z7 (n:=x.length) (by omega) (by omega)),?_⟩
   exact⟨seen,hm,by rw[hJ,hje,List.drop_length,List.nil_append]⟩
 ·all_goals (refine⟨eI,_,eR,?_⟩;try simp only[zp])
  have hie:i=x.length:=by simp at hb;omega
  rw[hJ,hie,List.drop_length];rfl)
def nlS (l:List (List UInt8)):AV:=if l=[]then .nilS else jg l
def zm7 (H:Hp) (v:AV) (l:List (List UInt8)) (lo:Nat):Prop:=(v=.nilS∧l=[])∨(l≠[]∧zj9 H v l lo)
theorem zm7.n {H:Hp}{v:AV}{l:List (List UInt8)}{lo:Nat} (h:zm7 H v l lo):zlv H v l lo:=h.imp id fun h=>h.2
theorem zm7.keep {H H':Hp}{v:AV}{l:List (List UInt8)}{lo:Nat} (h:zm7 H v l lo) (hn:H.next≤H'.next) (hg:∀ k,yp v k→H'.get k=H.get k):zm7 H' v l lo:=h.imp id fun h=>⟨h.1,h.2.keep hn hg⟩
theorem zjs (H:Hp) (n:Nat):∀ l:List (List UInt8),iceL (iceV H (n+1)) (l.map .str)=some (l.map .str)
 | []=>rfl
 | a::l=>by
   have:=zjs H n l
   have e:iceV H (n+1) (.str a)=some (.str a):=rfl
   simp only[List.map_cons,iceL,e,this]
theorem zm7.iceV {H:Hp}{v:AV}{l:List (List UInt8)}{lo:Nat} (h:zm7 H v l lo) (n:Nat):iceV H (n+2) v=some (nlS l):=by
 rcases h with ⟨rfl,rfl⟩|⟨h0,r,imm,rfl,h2,_⟩
 ·rfl
 ·have e:Ab.iceV H (n+2) (.sl r 0 l.length 1)=match H.get r with
   | some (.cells cs _ _)=>match iceL (Ab.iceV H (n+1)) ((cs.drop 0).take (l.length * 1))with
     | some l'=>if l'.length=l.length * 1 then some (.lst (zao 1 l.length l'))else none
     | none=>none
   | _=>none:=rfl
  rw[e,h2]
  simp only[List.drop_zero,Nat.mul_one]
  rw[List.take_of_length_le (by simp),zjs]
  simp only[List.length_map,if_true,zo1]
  rw[nlS,if_neg h0]
theorem zqY (n:Nat) (l:List (List UInt8)):wkN (n+2) (nlS l)=jg l:=by
 unfold nlS
 split
 ·rename_i h;subst h;rfl
 ·show AV.lst ((l.map fun s=>[AV.str s]).map fun row=>row.map (wkN (n+1)))=_
  rw[List.map_map];rfl
set_option maxRecDepth 100000 in
theorem zkg (ρ:Nat→Int) (p:Pr) (hz:p.sz < 2 ^ 36):Con Try.prog ρ 81 (prE p) (.tup [jg (zD p),jg (jv p)]):=znY (n:=3) (zbI (r:=.tup [nlS (zD p),nlS (jv p)]) (m:=3) (cfg:=zJ pls []) fit (zgX ρ) (fun f args r h=>by simp[zJ,yJ]at h) (.cons (.agg p.pure) .nil) (by
 have hw:=ju 81
 have hkeep:(zJ pls []).keep 81=false:=rfl
 have hpz:p.sz=1+zaj p.arrays+za0 p.funcs:=rfl
 have hla:=zaU p.arrays
 have hlf:=zby p.funcs
 rw[prE]
 refine zi (M:=38) (rs:=[.tmp 2,.tmp 3]) (hw.call _) hw.ice hw.froz Try.func81 rfl rfl code81.2 rfl ?_;dsimp only[code81,zH,Nat.reduceAdd]
 repeat' (first
  | (apply Rx.nl ?_;clear hK K)|apply Rx.o ?_|apply Rx.on ?_|(apply Rx.cd (fun hb hbp=>?_) (fun hb hbp=>?_)<;>try (cases hb;done))|apply Wp.seq ?_|(apply zd fun K hK=>?_)|apply Wp.block ?_|apply zh ?_|apply Rx.rt ?_|apply zj ?_)
 refine yj [1,2,3,5,11,12] [0] 13 p.arrays.length (fun i E H=>∃ v,E.at 4=v∧zm7 H v ((zD p).take i) 1) eE ⟨.nilS,eE,.inl ⟨rfl,rfl⟩⟩ ?_
 rintro i E H2 hi hcE hrH hnH hsI ⟨v,k4,hv⟩
 (try simp only[zk,zl,and_true,sB,sO,Nat.reduceBEq,Nat.reduceAdd,Nat.reduceLeDiff,tyF, *]at hcE)
 (try simp only[zk,zl,and_true,sB,sO,Nat.reduceBEq,Nat.reduceAdd,Nat.reduceLeDiff,tyF, *]at hrH)
 (try simp only[zb,ze,zM,Nat.zero_add,Nat.reduceAdd]at hnH)
 have hB0:(0 == H2.next)=false:=zF (by omega)
 have hC0:(H2.next == 0)=false:=zF (by omega)
 repeat' (first
  | (apply Rx.nl ?_;clear hK K)|apply Rx.o ?_|apply Rx.on ?_|(apply Rx.cd (fun hb hbp=>?_) (fun hb hbp=>?_)<;>try (cases hb;done))|apply Wp.seq ?_|(apply zd fun K hK=>?_)|apply Wp.block ?_|apply zh ?_|apply Rx.rt ?_|apply zj ?_)
 ·have hlt:i < p.arrays.length:=by simpa using hb
  have hgx:p.arrays[i]?=some p.arrays[i]:=List.getElem?_eq_getElem hlt
  have htk:(zD p).take (i+1)=(zD p).take i++[p.arrays[i].name]:=by rw[zD,List.take_add_one,List.getElem?_map,hgx];rfl
  repeat' (first
   | (apply Rx.nl ?_;clear hK K)|apply Rx.o ?_|apply Rx.on ?_|(apply Rx.cd (fun hb hbp=>?_) (fun hb hbp=>?_)<;>try (cases hb;done))|apply Wp.seq ?_|(apply zd fun K hK=>?_)|apply Wp.block ?_|apply zh ?_|apply Rx.rt ?_|apply zj ?_)
  generalize hHb:Hp.alloc (Hp.set _ _ _) _=Hb
  have nb:Hb.next=H2.next+2:=by rw[← hHb];rfl
  have oldb:∀ k,k < H2.next→Hb.get k=H2.get k:=fun k hk=>by rw[← hHb,za,if_neg (by simp only[ze,zb];omega),Hp.get_set,if_neg (by omega),za,if_neg (by omega)]
  have gb:Hb.get (H2.next+1)=some (.cells [.str p.arrays[i].name] 0 true):=by rw[← hHb,za,if_pos (by rfl)]
  clear hHb
  have hvb:zlv Hb v ((zD p).take i) 1:=hv.n.keep (by omega) fun k hk=>oldb k (hv.n.lt hk).2
  obtain⟨v5,H5,a5,s5,n5,f5,o5⟩:=znX (r:=H2.next+1) (imm:=0) p.arrays[i].name hvb (by omega) gb (by simp;omega)
  have n5':Hb.next≤H5.next:=by omega
  clear n5
  have g50:H5.get 0=some (.cells p.cells 0 true):=by rw[f5 0 (by omega),oldb 0 (by omega)];exact hrH
  refine WpL.append eV eV (by rw[hkeep];exact a5) ?_
  repeat' (first
   | (apply Rx.nl ?_;clear hK K)|apply Rx.o ?_|apply Rx.on ?_|(apply Rx.cd (fun hb hbp=>?_) (fun hb hbp=>?_)<;>try (cases hb;done))|apply Wp.seq ?_|(apply zd fun K hK=>?_)|apply Wp.block ?_|apply zh ?_|apply Rx.rt ?_|apply zj ?_)
  refine⟨by omega,eL,eL,eN,(by simp only[sB,Nat.reduceBEq, *];exact z7 (n:=p.arrays.length) (by omega) (by omega)),?_⟩
  exact⟨v5,eE,.inr ⟨by rw[htk];simp,by rw[htk];exact s5⟩⟩
 ·have hie:i=p.arrays.length:=by simp at hb;omega
  have hte:(zD p).take i=zD p:=List.take_of_length_le (by simp[zD];omega)
  rw[hte]at hv
  clear hte hie hsI hi
  repeat' (first
   | (apply Rx.nl ?_;clear hK K)|apply Rx.o ?_|apply Rx.on ?_|(apply Rx.cd (fun hb hbp=>?_) (fun hb hbp=>?_)<;>try (cases hb;done))|apply Wp.seq ?_|(apply zd fun K hK=>?_)|apply Wp.block ?_|apply zh ?_|apply Rx.rt ?_|apply zj ?_)
  have c3:∀ k,yp v k→k < H2.next:=fun k hk=>(hv.n.lt hk).2
  refine yj [2,3,4,24,25] [0] 26 p.funcs.length (fun i E H=>∃ u,E.at 5=u∧zm7 H u ((jv p).take i) H2.next∧zm7 H v (zD p) 1) eE ⟨.nilS,eE,.inl ⟨rfl,rfl⟩,hv⟩ ?_
  rintro i E H3 hi hcE hrH hnH hsI ⟨u,k5,hu,hv3⟩
  (try simp only[zk,zl,and_true,sB,sO,Nat.reduceBEq,Nat.reduceAdd,Nat.reduceLeDiff,tyF, *]at hcE)
  (try simp only[zk,zl,and_true,sB,sO,Nat.reduceBEq,Nat.reduceAdd,Nat.reduceLeDiff,tyF, *]at hrH)
  (try simp only[zb,ze,zM,Nat.zero_add,Nat.reduceAdd]at hnH)
  have hB0:(0 == H3.next)=false:=zF (by omega)
  have hC0:(H3.next == 0)=false:=zF (by omega)
  repeat' (first
   | (apply Rx.nl ?_;clear hK K)|apply Rx.o ?_|apply Rx.on ?_|(apply Rx.cd (fun hb hbp=>?_) (fun hb hbp=>?_)<;>try (cases hb;done))|apply Wp.seq ?_|(apply zd fun K hK=>?_)|apply Wp.block ?_|apply zh ?_|apply Rx.rt ?_|apply zj ?_)
  ·have hlt:i < p.funcs.length:=by simpa using hb
   have hgx:p.funcs[i]?=some p.funcs[i]:=List.getElem?_eq_getElem hlt
   have htk:(jv p).take (i+1)=(jv p).take i++[p.funcs[i].name]:=by rw[jv,List.take_add_one,List.getElem?_map,hgx];rfl
   repeat' (first
    | (apply Rx.nl ?_;clear hK K)|apply Rx.o ?_|apply Rx.on ?_|(apply Rx.cd (fun hb hbp=>?_) (fun hb hbp=>?_)<;>try (cases hb;done))|apply Wp.seq ?_|(apply zd fun K hK=>?_)|apply Wp.block ?_|apply zh ?_|apply Rx.rt ?_|apply zj ?_)
   generalize hHb:Hp.alloc (Hp.set _ _ _) _=Hb
   have nb:Hb.next=H3.next+2:=by rw[← hHb];rfl
   have oldb:∀ k,k < H3.next→Hb.get k=H3.get k:=fun k hk=>by rw[← hHb,za,if_neg (by simp only[ze,zb];omega),Hp.get_set,if_neg (by omega),za,if_neg (by omega)]
   have gb:Hb.get (H3.next+1)=some (.cells [.str p.funcs[i].name] 0 true):=by rw[← hHb,za,if_pos (by rfl)]
   clear hHb
   have hub:zlv Hb u ((jv p).take i) H2.next:=hu.n.keep (by omega) fun k hk=>oldb k (hu.n.lt hk).2
   obtain⟨v5,H5,a5,s5,n5,f5,o5⟩:=znX (r:=H3.next+1) (imm:=0) p.funcs[i].name hub (by omega) gb (by simp;omega)
   have n5':Hb.next≤H5.next:=by omega
   clear n5
   have g50:H5.get 0=some (.cells p.cells 0 true):=by rw[f5 0 (by omega),oldb 0 (by omega)];exact hrH
   refine WpL.append eV eV (by rw[hkeep];exact a5) ?_
   repeat' (first
    | (apply Rx.nl ?_;clear hK K)|apply Rx.o ?_|apply Rx.on ?_|(apply Rx.cd (fun hb hbp=>?_) (fun hb hbp=>?_)<;>try (cases hb;done))|apply Wp.seq ?_|(apply zd fun K hK=>?_)|apply Wp.block ?_|apply zh ?_|apply Rx.rt ?_|apply zj ?_)
   refine⟨by omega,eL,eL,eN,(by simp only[sB,Nat.reduceBEq, *];exact z7 (n:=p.funcs.length) (by omega) (by omega)),?_⟩
   exact⟨v5,eE,.inr ⟨by rw[htk];simp,by rw[htk];exact s5⟩,hv3.keep (by omega) fun k hk=>by rw[f5 k (c3 k hk),oldb k (by have:=c3 k hk;omega)]⟩
  ·have hie:i=p.funcs.length:=by simp at hb;omega
   have hte:(jv p).take i=jv p:=List.take_of_length_le (by simp[jv];omega)
   rw[hte]at hu
   repeat' (first
    | (apply Rx.nl ?_;clear hK K)|apply Rx.o ?_|apply Rx.on ?_|(apply Rx.cd (fun hb hbp=>?_) (fun hb hbp=>?_)<;>try (cases hb;done))|apply Wp.seq ?_|(apply zd fun K hK=>?_)|apply Wp.block ?_|apply zh ?_|apply Rx.rt ?_|apply zj ?_)
   all_goals (refine⟨eI,_,eR,?_⟩;try simp only[zp])
   have e1:=hv3.iceV (n:=0)
   have e2:=hu.iceV (n:=0)
   show(match iceL (iceV H3 2) [v,u]with|some ds=>some (AV.tup ds)|none=>none)=_
   simp only[iceL,e1,e2])) (by
 show AV.tup [wkN 2 (nlS (zD p)),wkN 2 (nlS (jv p))]=_
 rw[zqY,zqY])
noncomputable def zm8:En:=⟨81,false,spP (fun p=>p.sz < 2 ^ 36) prE fun p=>.tup [jg (zD p),jg (jv p)]⟩
theorem zjt (ρ:Nat→Int):zaF Try.prog ρ zm8:=yW fun p hp=>zkg ρ p hp
noncomputable def zqZ:En:=⟨82,true,spP rwOk rwE fun x=>.bool (zO [] x.flatten)⟩
theorem zo6 (ρ:Nat→Int):zaF Try.prog ρ zqZ:=yW fun x hx=>zm6 ρ x hx
theorem flat1 (x:List (List (List UInt8))):(x.map fun l=>[jg l]).flatten=x.map jg:=by
 induction x with
 | nil=>rfl
 | cons a l ih=>simp[ih]
theorem zq0 {H:Hp}{r imm:Nat}{x:List (List (List UInt8))} (hg:H.get r=some (.cells (x.map jg) imm true)) (hr:r < H.next) (hi:imm≤x.length) :
 ∃ H',zbn (zbW 100) [.sl r 0 x.length 1] H=some (rwE x,H')∧Icy (fun k=>k=r) H H':=by
 refine Ic.iceL (S:=fun k=>k=r) (n:=100) (m:=rwE x) ⟨?_,trivial⟩
 have h:=Ic.rows (S:=fun k=>k=r) (n:=99) (H:=H) (r:=r) (z:=1) (imm:=imm) (tip:=true) (a:=x.map fun l=>[jg l]) (b:=x.map fun l=>[jg l]) rfl hr (by rw[flat1];exact hg) (by rw[flat1];simpa using hi) (by simp) (zbm.refl fun a ha=>zbm.refl fun c hc=>by
  obtain⟨l,_,rfl⟩:=List.mem_map.1 ha
  rw[List.mem_singleton]at hc
  subst hc
  exact Ic.flat ⟨zcX l,trivial⟩)
 rw[List.length_map]at h
 exact h
theorem zkh {l:List En} (hl:∀ ar,yJ l 82 ar=zqZ.sp ar) (hi:zfI l 82=true) {H:Hp}{r imm:Nat}{x:List (List (List UInt8))} (hg:H.get r=some (.cells (x.map jg) imm true)) (hr:r < H.next) (him:imm≤x.length) (hx:rwOk x) :
 zu Try.prog (zJ pls l) 82 [.sl r 0 x.length 1] H fun v H'=>v=.bool (zO [] x.flatten)∧Icy (fun k=>k=r) H H':=by
 obtain⟨H',h1,h2⟩:=zq0 hg hr him
 refine zu.mono ?_ (zmS (enc:=rwE) (out:=fun x=>.bool (zO [] x.flatten)) zu0 (x:=x) hl hi hx (H':=H') (fun y _ e=>by simp[rwE]at e) h1)
 rintro v _ ⟨rfl,rfl⟩
 exact⟨rfl,h2⟩
theorem bsR1 (H:Hp) (a:List (List AV)):zB Try.prog H 167 1 [(0,.lst a)]=some (.sl H.next 0 1 1,H.alloc (.cells [.lst a] 0 true)):=by kernel_rfl
theorem bsR2 (H:Hp) (a b:List (List AV)):zB Try.prog H 167 2 [(0,.lst a),(1,.lst b)]=some (.sl H.next 0 2 1,H.alloc (.cells [.lst a,.lst b] 0 true)):=by kernel_rfl
theorem bsR3 (H:Hp) (a b c:List (List AV)):zB Try.prog H 167 3 [(0,.lst a),(1,.lst b),(2,.lst c)]=some (.sl H.next 0 3 1,H.alloc (.cells [.lst a,.lst b,.lst c] 0 true)):=by kernel_rfl
noncomputable def zm9:List En:=[zm8,zqZ]
theorem zo7 (ρ:Nat→Int):zdC Try.prog ρ zm9:=⟨zjt ρ,zo6 ρ,trivial⟩
set_option maxRecDepth 100000 in
theorem ziu (ρ:Nat→Int) (p:Pr) (hz:p.sz < 2 ^ 36):Con Try.prog ρ 45 (prE p) (.bool (zhh p)):=yO fit (pls:=pls) (zo7 ρ) (.cons (.agg p.pure) .nil) (.bool _) (by
 have hw:Plain (zJ pls zm9) 45:=yD (fun _=>rfl) rfl
 have kd:∀ H,zu Try.prog (zJ pls zm9) 81 [.agg p.cells] H fun v H'=>v=.tup [jg (zD p),jg (jv p)]∧H'=H:=fun H=>yd (enc:=prE) (out:=fun p=>.tup [jg (zD p),jg (jv p)]) zcC (x:=p) rfl hz
 have hpz:p.sz=1+zaj p.arrays+za0 p.funcs:=rfl
 have hla:=zaU p.arrays
 have hlf:=zby p.funcs
 have hal:(zD p).length=p.arrays.length:=by simp[zD]
 have hfl:(jv p).length=p.funcs.length:=by simp[jv]
 have hx0:∀ a b,Ab.extract (.tup [a,b]) 0=some a:=fun _ _=>rfl
 have hx1:∀ a b,Ab.extract (.tup [a,b]) 1=some b:=fun _ _=>rfl
 rw[prE]
 refine zi (M:=35) (rs:=[.tmp 2]) (hw.call _) hw.ice hw.froz Try.func45 rfl rfl code45.2 rfl ?_;dsimp only[code45,zH,Nat.reduceAdd]
 have gh0:=@bsR1
 repeat' (first
  | (apply Rx.nl ?_;clear hK K)|apply Rx.o ?_|apply Rx.on ?_|(apply Rx.call ?_;first|refine jM (kd _) ?_)|(apply Rx.gd (fun hg hgp=>?_) (fun hg hgp=>?_)<;>try (cases hg;done))|(apply Rx.cd (fun hb hbp=>?_) (fun hb hbp=>?_)<;>try (cases hb;done))|apply Wp.seq ?_|(apply zd fun K hK=>?_)|apply Wp.block ?_|apply zh ?_|apply Rx.rt ?_|apply zj ?_)
 refine WpL.call rfl eVk eAk ?_;simp only[List.cons_append,List.nil_append,List.append_nil]
 refine zu.mono ?_ (zkh (x:=[zD p]) (imm:=0) (fun _=>rfl) rfl (by rw[za,if_pos (by rfl)];rfl) (Nat.lt_succ_self _) (by simp) ⟨by simp,by simp;omega⟩)
 rintro v H2 ⟨rfl,hy⟩
 have n2:=hy.next
 simp only[zb,zM]at n2
 have g20:H2.get 0=some (.cells p.cells 0 true):=by rw[hy.out 0 (by simp),za,if_neg (by simp),za,if_pos (by rfl)]
 have n2':2≤H2.next:=by omega
 clear hy n2
 rw[show([zD p]:List (List (List UInt8))).flatten=zD p by simp]
 dsimp only[zA]
 have gh0:=@bsR1
 repeat' (first
  | (apply Rx.nl ?_;clear hK K)|apply Rx.o ?_|apply Rx.on ?_|(apply Rx.gd (fun hg hgp=>?_) (fun hg hgp=>?_)<;>try (cases hg;done))|(apply Rx.cd (fun hb hbp=>?_) (fun hb hbp=>?_)<;>try (cases hb;done))|apply Wp.seq ?_|(apply zd fun K hK=>?_)|apply Wp.block ?_|apply zh ?_|apply Rx.rt ?_|apply zj ?_)
 ·refine WpL.call rfl eVk eAk ?_;simp only[List.cons_append,List.nil_append,List.append_nil]
  refine zu.mono ?_ (zkh (x:=[jv p]) (imm:=0) (fun _=>rfl) rfl (by rw[za,if_pos (by rfl)];rfl) (Nat.lt_succ_self _) (by simp) ⟨by simp,by simp;omega⟩)
  rintro v H3 ⟨rfl,hy⟩
  have n3:=hy.next
  simp only[zb]at n3
  have g30:H3.get 0=some (.cells p.cells 0 true):=by rw[hy.out 0 (by omega),za,if_neg (by omega)];exact g20
  have n3':2≤H3.next:=by omega
  clear hy n3
  rw[show([jv p]:List (List (List UInt8))).flatten=jv p by simp]
  dsimp only[zA]
  repeat' (first
   | (apply Rx.nl ?_;clear hK K)|apply Rx.o ?_|apply Rx.on ?_|(apply Rx.gd (fun hg hgp=>?_) (fun hg hgp=>?_)<;>try (cases hg;done))|(apply Rx.cd (fun hb hbp=>?_) (fun hb hbp=>?_)<;>try (cases hb;done))|apply Wp.seq ?_|(apply zd fun K hK=>?_)|apply Wp.block ?_|apply zh ?_|apply Rx.rt ?_|apply zj ?_)
  ·all_goals (refine⟨eI,_,eR,?_⟩;try simp only[zp])
   rw[zhh];(try simp only[Bool.not_eq_true',Bool.not_eq_false']at *);simp only[*,decide_true,decide_false,Bool.false_or,Bool.or_false,Bool.true_or,Bool.or_true,Bool.false_and,Bool.and_false,Bool.true_and,Bool.and_true,Bool.not_true,Bool.not_false,if_true,if_false,Int.reduceEq]
  ·refine yj [3,21,22] [0] 23 p.funcs.length (fun i E H=>(p.funcs.any fun f=>zO [] (zD p++(f.params++f.locals)))=((p.funcs.drop i).any fun f=>zO [] (zD p++(f.params++f.locals)))) eE (by simp) ?_
   rintro i E H4 hi hcE hrH hnH hsI hJ
   (try simp only[zk,zl,and_true,sB,sO,Nat.reduceBEq,Nat.reduceAdd,Nat.reduceLeDiff,tyF, *]at hcE)
   (try simp only[zk,zl,and_true,sB,sO,Nat.reduceBEq,Nat.reduceAdd,Nat.reduceLeDiff,tyF, *]at hrH)
   (try simp only[zb,ze,zM,Nat.zero_add,Nat.reduceAdd]at hnH)
   have hB0:(0 == H4.next)=false:=zF (by omega)
   have hC0:(H4.next == 0)=false:=zF (by omega)
   repeat' (first
    | (apply Rx.nl ?_;clear hK K)|apply Rx.o ?_|apply Rx.on ?_|(apply Rx.gd (fun hg hgp=>?_) (fun hg hgp=>?_)<;>try (cases hg;done))|(apply Rx.cd (fun hb hbp=>?_) (fun hb hbp=>?_)<;>try (cases hb;done))|apply Wp.seq ?_|(apply zd fun K hK=>?_)|apply Wp.block ?_|apply zh ?_|apply Rx.rt ?_|apply zj ?_)
   ·have hlt:i < p.funcs.length:=by simpa using hb
    have hgx:p.funcs[i]?=some p.funcs[i]:=List.getElem?_eq_getElem hlt
    have hsm:=zbz (List.getElem_mem hlt)
    have hsz:p.funcs[i].sz=1+p.funcs[i].name.length+yL p.funcs[i].params+yL p.funcs[i].locals+zy p.funcs[i].body+p.funcs[i].value.sz:=rfl
    have hpl:=zas p.funcs[i].params
    have hll:=zas p.funcs[i].locals
    have hdr:((p.funcs.drop i).any fun f=>zO [] (zD p++(f.params++f.locals)))=(zO [] (zD p++(p.funcs[i].params++p.funcs[i].locals))||((p.funcs.drop (i+1)).any fun f=>zO [] (zD p++(f.params++f.locals)))):=by rw[List.drop_eq_getElem_cons hlt,List.any_cons]
    have gh0:=@bsR3
    repeat' (first
     | (apply Rx.nl ?_;clear hK K)|apply Rx.o ?_|apply Rx.on ?_|(apply Rx.gd (fun hg hgp=>?_) (fun hg hgp=>?_)<;>try (cases hg;done))|(apply Rx.cd (fun hb hbp=>?_) (fun hb hbp=>?_)<;>try (cases hb;done))|apply Wp.seq ?_|(apply zd fun K hK=>?_)|apply Wp.block ?_|apply zh ?_|apply Rx.rt ?_|apply zj ?_)
    refine WpL.call rfl eVk eAk ?_;simp only[List.cons_append,List.nil_append,List.append_nil]
    refine zu.mono ?_ (zkh (x:=[zD p,p.funcs[i].params,p.funcs[i].locals]) (imm:=0) (fun _=>rfl) rfl (by rw[za,if_pos (by rfl)];rfl) (Nat.lt_succ_self _) (by simp) ⟨by simp,by simp;omega⟩)
    rintro v H5 ⟨rfl,hy⟩
    have n5:=hy.next
    simp only[zb,ze]at n5
    have g50:H5.get 0=some (.cells p.cells 0 true):=by rw[hy.out 0 (by intro e;change (0:Nat)=_ at e;(try simp only[ze,zb]at e);omega),za,if_neg (by(try simp only[ze,zb]);omega),Hp.get_set,if_neg (by omega),za,if_neg (by omega)];exact hrH
    have n5':H4.next≤H5.next:=by omega
    clear hy n5
    rw[show([zD p,p.funcs[i].params,p.funcs[i].locals]:List (List (List UInt8))).flatten=zD p++(p.funcs[i].params++p.funcs[i].locals) by simp]
    dsimp only[zA]
    repeat' (first
     | (apply Rx.nl ?_;clear hK K)|apply Rx.o ?_|apply Rx.on ?_|(apply Rx.gd (fun hg hgp=>?_) (fun hg hgp=>?_)<;>try (cases hg;done))|(apply Rx.cd (fun hb hbp=>?_) (fun hb hbp=>?_)<;>try (cases hb;done))|apply Wp.seq ?_|(apply zd fun K hK=>?_)|apply Wp.block ?_|apply zh ?_|apply Rx.rt ?_|apply zj ?_)
    ·all_goals (refine⟨eI,_,eR,?_⟩;try simp only[zp])
     rw[zhh,hJ,hdr];(try simp only[Bool.not_eq_true',Bool.not_eq_false']at *);simp only[*,decide_true,decide_false,Bool.false_or,Bool.or_false,Bool.true_or,Bool.or_true,Bool.false_and,Bool.and_false,Bool.true_and,Bool.and_true,Bool.not_true,Bool.not_false,if_true,if_false,Int.reduceEq]
    ·refine⟨by omega,eL,eL,eN,(by simp only[sB,Nat.reduceBEq, *];exact z7 (n:=p.funcs.length) (by omega) (by omega)),?_⟩
     rw[hJ,hdr];(try simp only[Bool.not_eq_true',Bool.not_eq_false']at *);simp only[*,decide_true,decide_false,Bool.false_or,Bool.or_false,Bool.true_or,Bool.or_true,Bool.false_and,Bool.and_false,Bool.true_and,Bool.and_true,Bool.not_true,Bool.not_false,if_true,if_false,Int.reduceEq]
   ·all_goals (refine⟨eI,_,eR,?_⟩;try simp only[zp])
    have hie:i=p.funcs.length:=by simp at hb;omega
    rw[hie,List.drop_length]at hJ
    have hJ2:(p.funcs.any fun f=>zO [] (zD p++(f.params++f.locals)))=false:=hJ
    rw[zhh,hJ2];(try simp only[Bool.not_eq_true',Bool.not_eq_false']at *);simp only[*,decide_true,decide_false,Bool.false_or,Bool.or_false,Bool.true_or,Bool.or_true,Bool.false_and,Bool.and_false,Bool.true_and,Bool.and_true,Bool.not_true,Bool.not_false,if_true,if_false,Int.reduceEq]
 ·repeat' (first
   | (apply Rx.nl ?_;clear hK K)|apply Rx.o ?_|apply Rx.on ?_|(apply Rx.gd (fun hg hgp=>?_) (fun hg hgp=>?_)<;>try (cases hg;done))|(apply Rx.cd (fun hb hbp=>?_) (fun hb hbp=>?_)<;>try (cases hb;done))|apply Wp.seq ?_|(apply zd fun K hK=>?_)|apply Wp.block ?_|apply zh ?_|apply Rx.rt ?_|apply zj ?_)
  all_goals (refine⟨eI,_,eR,?_⟩;try simp only[zp])
  rw[zhh];(try simp only[Bool.not_eq_true',Bool.not_eq_false']at *);simp only[*,decide_true,decide_false,Bool.false_or,Bool.or_false,Bool.true_or,Bool.or_true,Bool.false_and,Bool.and_false,Bool.true_and,Bool.and_true,Bool.not_true,Bool.not_false,if_true,if_false,Int.reduceEq])
end Go.Proofs.Ytpbcimfiofmoeaa
namespace Go.Proofs.Ytpbcimfiofmoeaa
set_option maxRecDepth 20000
set_option maxRecDepth 20000
open Go Go.Ab
namespace tyV5
end tyV5
open tyV5
def zbT (n:Nd):List UInt8:=zlC (zii n)
end Go.Proofs.Ytpbcimfiofmoeaa
namespace Go.Proofs.Ytpbcimfiofmoeaa
set_option maxRecDepth 20000
open Go Go.Ab
theorem zq1 {l:List Ex}{i:Nat}{k:Ex} (hw:zaJ l=true) (h:l[i]?=some k):wfE k=true:=by
 induction l generalizing i with
 | nil=>simp at h
 | cons e es ih=>
   rw[zaJ,Bool.and_eq_true]at hw
   cases i with
   | zero=>simp at h;subst h;exact hw.1
   | succ i=>exact ih hw.2 (by simpa using h)
theorem zfc {α:Type} (l:List α) {i:Nat} (h:i < l.length):∃ k,l[i]?=some k:=⟨l[i],List.getElem?_eq_getElem h⟩
section
variable (p:Pr) (fi:List (Nm × Int))
end
theorem zlM (s:Nm):∀ (l:List Fu) (i:Nat) (m:List (Nm×Int)),yC (l.map (·.name)) s=false→lkV (zdr l i m) s=lkV m s
 | [],_,m,_=>rfl
 | f::l,i,m,h=>by
   rw[List.map_cons,show f.name::l.map (·.name)=[f.name]++l.map (·.name)from rfl,yT,zaL,Bool.or_eq_false_iff,decide_eq_false_iff_not]at h
   rw[zdr,zlM s l _ _ h.2,zfa,if_neg h.1]
theorem zju (s:Nm):∀ (l:List Fu) (seen:List (List UInt8)) (i:Nat) (m:List (Nm×Int)),zO seen (l.map (·.name))=false→0≤yn l s i→lkV (zdr l i m) s=yn l s i
 | [],_,i,m,_,h=>by simp[yn]at h
 | f::l,seen,i,m,hn,h=>by
   rw[List.map_cons,zO,Bool.or_eq_false_iff]at hn
   rw[yn]at h ⊢
   by_cases e:f.name=s
   ·have h3:yC (l.map (·.name)) s=false:=zcE _ _ hn.2 s (by rw[yT,zaL,decide_eq_true e.symm,Bool.or_true])
    rw[if_pos e,zdr,zlM s l _ _ h3,zfa,if_pos e.symm]
   ·rw[if_neg e]at h ⊢
    rw[zdr]
    exact zju s l (seen++[f.name]) (i+1) _ hn.2 h
structure Valid (p:Pr):Prop where
 ex:exB p=false
 wf:wfP p=true
 du:zgw p=false
 un:p.funcs.any (zbS p)=false
 ba:p.funcs.any (zcD p)=false
theorem zq2 {p:Pr} (h:yH p=0):Valid p:=by
 rw[yH]at h
 by_cases h1:exB p=true
 ·rw[if_pos h1]at h;omega
 rw[if_neg h1]at h
 by_cases h2:wfP p=false
 ·rw[if_pos h2]at h;omega
 rw[if_neg h2]at h
 by_cases h3:zgw p=true
 ·rw[if_pos h3]at h;omega
 rw[if_neg h3]at h
 by_cases h4:p.funcs.any (zbS p)=true
 ·rw[if_pos h4]at h;omega
 rw[if_neg h4]at h
 by_cases h5:p.funcs.any (zcD p)=true
 ·rw[if_pos h5]at h;omega
 exact⟨by simpa using h1,by simpa using h2,by simpa using h3,by simpa using h4,by simpa using h5⟩
theorem Valid.names {p:Pr} (h:Valid p):zO [] (zD p)=false∧zO [] (jv p)=false:=by
 have hd:=h.du
 rw[zgw,zeq,Bool.or_eq_false_iff,Bool.or_eq_false_iff]at hd
 exact⟨hd.1,hd.2.1⟩
theorem ziv:∀ (l seen:List (List UInt8)),zO seen l=false→l.Nodup
 | [],_,_=>List.nodup_nil
 | s::l,seen,h=>by
   rw[zO,Bool.or_eq_false_iff]at h
   refine List.nodup_cons.2 ⟨fun hm=>?_,ziv l _ h.2⟩
   have:=zcE _ _ h.2 s (by rw[yT,zaL,decide_eq_true rfl,Bool.or_true])
   rw[yC,List.any_eq_false]at this
   exact this s hm (by simp)
theorem Valid.nodup {p:Pr} (h:Valid p):(p.arrays.map (·.name)).Nodup:=ziv _ _ h.names.1
structure Bd where
 l:List Nd
 vars:List Int
 state:Int
 loops:Nat
structure Cx where
 arrays:List Ar
 funcs:List Fu
 names:List Nm
def zbP (l:List Nd) (n:Nd):Nat:=l.findIdx fun x=>decide (x=n)
def zbh (l:List Nd) (n:Nd):List Nd:=if zbP l n < l.length then l else l++[n]
def zn (n:Nd) (s:Bd):Int×Bd:=(zbP s.l n,{ s with l:=zbh s.l n })
def ixS:List Nm→Nm→Nat
 | [],_=>0
 | a::l,s=>if a=s then 0 else if yC l s=true then ixS l s+1 else 0
def zw (c a b:Int) (s:Bd):Int×Bd:=if a=b then (a,s)else zn ⟨22,0,[c,a,b]⟩ s
def zbQ (trap v:Int) (s:Bd):Bd:=let r:=zn ⟨27,trap,[s.state,v]⟩ s;{ r.2 with state:=r.1 }
def zbi (len i:Int) (s:Bd):Bd:=
 let r1:=zn ⟨1,len,[]⟩ s
 let r2:=zn ⟨19,0,[i,r1.1]⟩ r1.2
 zbQ 2 r2.1 r2.2
def zgy (v:Int) (s:Bd):Bd:=
 let z:=zn ⟨1,0,[]⟩ s
 let c:=zn ⟨16,0,[v,z.1]⟩ z.2
 zbQ 1 c.1 c.2
def exL (c:Cx):Nat→Ex→Bd→Option (Int×Bd)
 | 0,_,_=>none
 | n+1,x,s=>
   if x.kind=1 then some (zn ⟨1,x.n,[]⟩ s)
   else if x.kind=2 then (s.vars[ixS c.names x.name]?).map fun v=>(v,s)
   else if x.kind=3 then
    (x.kids[0]?).bind fun k=>(exL c n k s).bind fun r=>(c.arrays[ixS (c.arrays.map (·.name)) x.name]?).bind fun a=>
      let s2:=zbi a.len r.1 r.2
      some (zn ⟨23,ixS (c.arrays.map (·.name)) x.name,[s2.state,r.1]⟩ s2)
   else if x.kind=5 then
    (x.kids[0]?).bind fun k0=>(exL c n k0 s).bind fun r0=>
    (x.kids[1]?).bind fun k1=>(exL c n k1 r0.2).bind fun r1=>
    (x.kids[2]?).bind fun k2=>(exL c n k2 { r1.2 with state:=r0.2.state }).bind fun r2=>
      let v:=zw r0.1 r1.1 r2.1 r2.2
      let t:=zw r0.1 r1.2.state v.2.state v.2
      some (v.1,{ t.2 with state:=t.1 })
   else
    (x.kids[0]?).bind fun k0=>(exL c n k0 s).bind fun r0=>
      if x.kids.length=1 then some (zn ⟨x.op,0,[r0.1]⟩ r0.2)
      else (x.kids[1]?).bind fun k1=>(exL c n k1 r0.2).bind fun r1=>
       some (zn ⟨x.op,0,[r0.1,r1.1]⟩ (if x.op=7∨x.op=8 then zgy r1.1 r1.2 else r1.2))
def zfd (c:Cx) (n:Nat):List Ex→Bd→Option (List Int×Bd)
 | [],s=>some ([],s)
 | x::l,s=>(exL c n x s).bind fun r=>(zfd c n l r.2).bind fun r2=>some (r.1::r2.1,r2.2)
def zaG (names:List Nm):Nat→List St→List Bool→Option (List Bool)
 | 0,_,_=>none
 | n+1,l,b=>match l with
   | []=>some b
   | x::l=>
     if (x.kind=1∨x.kind=6)∧b.length≤ixS names x.name then none
     else (zaG names n x.thn (if x.kind=1∨x.kind=6 then b.set (ixS names x.name) true else b)).bind fun b2=>(zaG names n x.els b2).bind fun b3=>zaG names n l b3
def yE (b:List Bool):List Nat:=(List.range b.length).filter fun i=>b.getD i false
def mvL (c:Int) (a:List Int):Nat→Nat→Bd→Option Bd
 | 0,_,s=>some s
 | k+1,i,s=>(a[i]?).bind fun x=>(s.vars[i]?).bind fun y=>
   let r:=zw c x y s
   mvL c a k (i+1) { r.2 with vars:=r.2.vars.set i r.1 }
def lvL (base:Int):List Nat→Nat→Bd→Bd
 | [],_,s=>s
 | w::ws,j,s=>let r:=zn ⟨3,base+j,[]⟩ s;lvL base ws (j+1) { r.2 with vars:=r.2.vars.set w r.1 }
def lrL (loop c:Int) (old:List Int):List Nat→Nat→Bd→Bd
 | [],_,s=>s
 | w::ws,j,s=>
   let f:=zn ⟨25,j,[loop]⟩ s
   let m:=zw c f.1 (old.getD w 0) f.2
   lrL loop c old ws (j+1) { m.2 with vars:=m.2.vars.set w m.1 }
section
variable (c:Cx)
mutual
def stL:Nat→St→Bd→Option Bd
 | 0,_,_=>none
 | n+1,x,s=>
   if x.kind=1 then (exL c n x.value s).bind fun r=>if ixS c.names x.name < r.2.vars.length then some { r.2 with vars:=r.2.vars.set (ixS c.names x.name) r.1 }else none
   else if x.kind=2 then (exL c n x.at_ s).bind fun i=>(exL c n x.value i.2).bind fun v=>(c.arrays[ixS (c.arrays.map (·.name)) x.name]?).bind fun a=>
    let s2:=zbi a.len i.1 v.2
    let r:=zn ⟨28,ixS (c.arrays.map (·.name)) x.name,[s2.state,i.1,v.1]⟩ s2
    some { r.2 with state:=r.1 }
   else if x.kind=3 then (exL c n x.value s).bind fun r=>(jA n x.thn r.2).bind fun a=>(jA n x.els { a with state:=r.2.state,vars:=r.2.vars }).bind fun b=>
    (mvL r.1 a.vars b.vars.length 0 b).bind fun m=>
      let t:=zw r.1 a.state m.state m
      some { t.2 with state:=t.1 }
   else if x.kind=4 then whL n x s
   else if x.kind=5 then (exL c n x.value s).bind fun v=>
    let r:=zn ⟨29,0,[v.2.state,v.1]⟩ v.2
    some { r.2 with state:=r.1 }
   else if x.kind=6 then (zfd c n x.args s).bind fun av=>
    if 0≤yn c.funcs x.to 0∧ixS c.names x.name < av.2.vars.length then
     let r:=zn ⟨30,yn c.funcs x.to 0,av.2.state::av.1⟩ av.2
     let q:=zn ⟨24,0,[r.1]⟩ { r.2 with state:=r.1 }
     some { q.2 with vars:=q.2.vars.set (ixS c.names x.name) q.1 }
    else none
   else if x.kind=7 then let z:=zn ⟨1,0,[]⟩ s;some (zbQ (w64 (16+x.n)) z.1 z.2)
   else some s
def jA:Nat→List St→Bd→Option Bd
 | 0,_,_=>none
 | n+1,l,s=>match l with
   | []=>some s
   | x::l=>(stL n x s).bind fun r=>jA n l r
def whL:Nat→St→Bd→Option Bd
 | 0,_,_=>none
 | n+1,x,s=>(exL c n x.value { s with loops:=s.loops+1 }).bind fun r=>(zaG c.names n x.thn (List.replicate r.2.vars.length false)).bind fun b=>
   let p:=zn ⟨3,16 * (s.loops:Int),[]⟩ r.2
   (jA n x.thn (lvL (16 * (s.loops:Int)+1) (yE b) 0 { p.2 with state:=p.1 })).bind fun t=>(exL c n x.value t).bind fun d=>
     let k:=zn ⟨31,s.loops,r.2.state::((yE b).map fun i=>r.2.vars.getD i 0)++[d.1,d.2.state]++((yE b).map fun i=>d.2.vars.getD i 0)⟩ d.2
     let f:=zn ⟨25,0,[k.1]⟩ { k.2 with vars:=r.2.vars }
     let m:=zw r.1 f.1 r.2.state f.2
     some (lrL k.1 r.1 r.2.vars (yE b) 1 { m.2 with state:=m.1 })
end
end
def prL:Nat→Nat→Bd→Bd
 | 0,_,s=>s
 | n+1,k,s=>let r:=zn ⟨2,k,[]⟩ s;prL n (k+1) { r.2 with vars:=r.2.vars++[r.1] }
def loL:Nat→Bd→Bd
 | 0,s=>s
 | n+1,s=>let r:=zn ⟨1,0,[]⟩ s;loL n { r.2 with vars:=r.2.vars++[r.1] }
def zad (f:Fu):Bd:=let e:=zn ⟨26,0,[]⟩ ⟨[],[],0,0⟩;loL f.locals.length (prL f.params.length 0 { e.2 with state:=e.1 })
def cxL (p:Pr) (f:Fu):Cx:=⟨p.arrays,p.funcs,f.params++f.locals⟩
def fnL (p:Pr) (n:Nat) (f:Fu):Option Gr:=(jA (cxL p f) n f.body (zad f)).bind fun s=>(exL (cxL p f) n f.value s).bind fun v=>some ⟨f.name,f.params.length,v.2.l,v.1,v.2.state⟩
def zez (p:Pr) (n:Nat):List Fu→List Gr→Option (Un×Int)
 | [],gs=>some (⟨p.arrays,gs⟩,0)
 | f::l,gs=>(fnL p n f).bind fun g=>if (2000:Int) < g.nodes.length then some (⟨[],[]⟩,6)else zez p n l (gs++[g])
def zki (p:Pr) (n:Nat):Option (Un×Int):=if yH p=0 then zez p n p.funcs []else some (⟨[],[]⟩,yH p)
structure NdR (n:Nd):Prop where
 op:0≤n.op∧n.op < 256
 imm:-9223372036854775808≤n.imm∧n.imm < 9223372036854775808
 kids:∀ k∈n.kids,0≤k∧k < 2 ^ 60
 len:n.kids.length < 2 ^ 30
theorem zn7 (n:Int):zcj n 0=n % 256:=by
 rw[zcj,IntKind.wrap_u8]
 simp[Int.fdiv_one]
theorem ziw (n:Int) (i:Nat):zcj n (i+1)=zcj (n / 256) i:=by
 rw[zcj,zcj]
 have e:(2:Int) ^ (8 * (i+1))=256 * 2 ^ (8 * i):=by
  rw[Nat.mul_add,Int.pow_add];omega
 have p:(0:Int)≤2 ^ (8 * i):=Int.le_of_lt (Int.pow_pos (by decide))
 rw[e,Int.fdiv_eq_ediv_of_nonneg _ (by omega),Int.fdiv_eq_ediv_of_nonneg _ p,Int.ediv_ediv_of_nonneg (by decide)]
theorem zo8 (n:Int) (i:Nat):0≤zcj n i∧zcj n i < 256:=by
 rw[zcj,IntKind.wrap_u8];omega
theorem zjv:∀ (k:Nat) (n m:Int),0≤n→n < 256 ^ k→0≤m→m < 256 ^ k→(∀ i,i < k→zcj n i=zcj m i)→n=m
 | 0,n,m,h1,h2,h3,h4,_=>by simp at h2 h4;omega
 | k+1,n,m,h1,h2,h3,h4,h=>by
   have e:(256:Int) ^ (k+1)=256 * 256 ^ k:=by rw[Int.pow_succ];omega
   rw[e]at h2 h4
   have h0:=h 0 (by omega)
   rw[zn7,zn7]at h0
   have ih:=zjv k (n / 256) (m / 256) (by omega) (by generalize (256:Int) ^ k=P at *;omega) (by omega) (by generalize (256:Int) ^ k=P at *;omega) (fun i hi=>by rw[← ziw,← ziw];exact h (i+1) (by omega))
   omega
theorem zlN:∀ {l m:List Int},(∀ x∈l,0≤x∧x < 256)→(∀ x∈m,0≤x∧x < 256)→zlC l=zlC m→l=m
 | [],[],_,_,_=>rfl
 | [],_::_,_,_,h=>by simp[zlC]at h
 | _::_,[],_,_,h=>by simp[zlC]at h
 | a::l,b::m,hl,hm,h=>by
   simp only[zlC,List.map_cons,List.cons.injEq]at h
   have h1:=hl a List.mem_cons_self
   have h2:=hm b List.mem_cons_self
   have e:a=b:=by
    have:=congrArg UInt8.toNat h.1
    rw[UInt8.toNat_ofNat',UInt8.toNat_ofNat']at this
    omega
   rw[e,zlN (fun x hx=>hl x (List.mem_cons_of_mem _ hx)) (fun x hx=>hm x (List.mem_cons_of_mem _ hx)) h.2]
theorem zix (n:Int) (k:Nat):∀ x∈jU n k,0≤x∧x < 256:=fun x hx=>by
 obtain⟨i,_,rfl⟩:=List.mem_map.1 hx
 exact zo8 n i
theorem zjw (n:Nd):∀ x∈zii n,0≤x∧x < 256:=fun x hx=>by
 rw[zii,List.mem_cons,List.mem_append,List.mem_flatMap]at hx
 rcases hx with rfl|hx|⟨k,_,hx⟩
 ·rw[IntKind.wrap_u8];omega
 ·exact zix _ _ x hx
 ·exact zix _ _ x hx
theorem ziy {n m:Int} (h1:0≤n) (h2:n < 18446744073709551616) (h3:0≤m) (h4:m < 18446744073709551616) (h:jU n 8=jU m 8):n=m:=
 zjv 8 n m h1 (by omega) h3 (by omega) fun i hi=>List.map_inj_left.1 h i (List.mem_range.2 hi)
theorem zlO (n:Int):0≤IntKind.wrap .u64 n∧IntKind.wrap .u64 n < 18446744073709551616:=by rw[IntKind.wrap_u64];omega
theorem ziz:∀ {ks ms:List Int},(∀ k∈ks,0≤k∧k < 2 ^ 60)→(∀ k∈ms,0≤k∧k < 2 ^ 60)→(ks.flatMap fun k=>jU (IntKind.wrap .u64 k) 8)=(ms.flatMap fun k=>jU (IntKind.wrap .u64 k) 8)→ks=ms
 | [],[],_,_,_=>rfl
 | [],m::ms,_,_,h=>by
   have:=congrArg List.length h
   rw[List.flatMap_cons,List.length_append,zac]at this
   simp at this;omega
 | k::ks,[],_,_,h=>by
   have:=congrArg List.length h
   rw[List.flatMap_cons,List.length_append,zac]at this
   simp at this
 | k::ks,m::ms,hk,hm,h=>by
   rw[List.flatMap_cons,List.flatMap_cons]at h
   obtain⟨h1,h2⟩:=List.append_inj h (by rw[zac,zac])
   have e:=ziy (zlO k).1 (zlO k).2 (zlO m).1 (zlO m).2 h1
   have a1:=hk k List.mem_cons_self
   have a2:=hm m List.mem_cons_self
   rw[IntKind.wrap_u64,IntKind.wrap_u64]at e
   have e2:k=m:=by omega
   rw[e2,ziz (fun x hx=>hk x (List.mem_cons_of_mem _ hx)) (fun x hx=>hm x (List.mem_cons_of_mem _ hx)) h2]
theorem zo9 {a b:Nd} (ha:NdR a) (hb:NdR b) (h:zbT a=zbT b):a=b:=by
 have h:=zlN (zjw a) (zjw b) h
 rw[zii,zii,List.cons.injEq]at h
 obtain⟨h1,h2⟩:=h
 obtain⟨h3,h4⟩:=List.append_inj h2 (by rw[zac,zac])
 have e3:=ziy (zlO _).1 (zlO _).2 (zlO _).1 (zlO _).2 h3
 have e4:=ziz ha.kids hb.kids h4
 have o1:=ha.op
 have o2:=hb.op
 have i1:=ha.imm
 have i2:=hb.imm
 rw[IntKind.wrap_u8,IntKind.wrap_u8]at h1
 rw[IntKind.wrap_u64,IntKind.wrap_u64]at e3
 obtain⟨ao,ai,ak⟩:=a
 obtain⟨bo,bi,bk⟩:=b
 simp only at *
 rw[show ao=bo by omega,show ai=bi by omega,e4]
theorem zpa (x:Nd) (l:List Nd) (n:Nd):zbP (x::l) n=if x=n then 0 else zbP l n+1:=by
 unfold zbP
 rw[List.findIdx_cons]
 by_cases h:x=n<;>simp[h]
theorem zkj (l:List Nd) (n:Nd):zbP l n≤l.length:=by unfold zbP;exact List.findIdx_le_length
theorem ixNd_lt {l:List Nd}{n:Nd}:zbP l n < l.length↔n∈l:=by
 unfold zbP
 rw[List.findIdx_lt_length]
 simp
theorem zlP {l:List Nd}{n:Nd} (h:zbP l n < l.length):l[zbP l n]?=some n:=by
 rw[List.getElem?_eq_getElem h]
 have:=List.findIdx_getElem (p:=fun x=>decide (x=n)) (xs:=l) (w:=h)
 simp only[decide_eq_true_eq]at this
 exact congrArg some this
theorem zpb (l:List Nd) (n:Nd):(zbh l n).length=if zbP l n < l.length then l.length else l.length+1:=by
 unfold zbh
 split<;>simp[*]
theorem zbZ (l:List Nd) (n:Nd):l<+:zbh l n:=by
 unfold zbh
 split
 ·exact List.prefix_refl l
 ·exact List.prefix_append l [n]
theorem zpc (l:List Nd) (n:Nd):(zbh l n)[zbP l n]?=some n:=by
 unfold zbh
 split
 ·rename_i h;exact zlP h
 ·rename_i h
  have:=zkj l n
  have e:zbP l n=l.length:=by omega
  rw[e,List.getElem?_append_right (Nat.le_refl _),Nat.sub_self];rfl
theorem zpd {l:List Nd}{n x:Nd}:x∈zbh l n↔x∈l∨x=n:=by
 unfold zbh
 split
 ·rename_i h
  have:=ixNd_lt.1 h
  constructor
  ·exact .inl
  ·rintro(h|rfl)
   ·exact h
   ·exact this
 ·simp
def atV (l:List Nd) (i:Nat):List (Nm×Int):=(l.zipIdx i).map fun p=>(zbT p.1,(p.2:Int))
theorem zq3 (x:Nd) (l:List Nd) (i:Nat):atV (x::l) i=(zbT x,(i:Int))::atV l (i+1):=by rw[atV,List.zipIdx_cons];rfl
theorem zlQ {n:Nd} (hn:NdR n):∀ (l:List Nd) (i:Nat),(∀ x∈l,NdR x)→zbO (atV l i) (zbT n)=decide (zbP l n < l.length)∧(zbP l n < l.length→lkV (atV l i) (zbT n)=((i+zbP l n:Nat):Int))∧(¬ zbP l n < l.length→∀ x,setV (atV l i) (zbT n) x=atV l i++[(zbT n,x)])
 | [],i,_=>⟨rfl,fun h=>by simp[zbP]at h,fun _ x=>rfl⟩
 | x::l,i,hl=>by
   obtain⟨h1,h2,h3⟩:=zlQ hn l (i+1) fun y hy=>hl y (List.mem_cons_of_mem _ hy)
   rw[zpa,zq3,List.length_cons]
   by_cases e:x=n
   ·subst e
    refine⟨by simp[zbO],fun _=>by simp[lkV],fun h=>by simp at h⟩
   ·have ek:¬ zbT n=zbT x:=fun h=>e (zo9 hn (hl x List.mem_cons_self) h).symm
    rw[if_neg e]
    refine⟨?_,fun h=>?_,fun h y=>?_⟩
    ·simp only[zbO,ek]
     rw[h1]
     simp
    ·have:=h2 (by omega)
     simp only[lkV,ek,if_false]
     rw[this];congr 1;omega
    ·have:=h3 (by omega) y
     simp only[setV,ek,if_false,this,List.cons_append]
theorem zq4 (l:List Nd) (n:Nd):atV l 0++[(zbT n,(l.length:Int))]=atV (l++[n]) 0:=by
 simp[atV,List.zipIdx_append]
structure Le (a b:Bd):Prop where
 l:a.l<+:b.l
 n:a.loops≤b.loops
theorem Le.refl (a:Bd):Le a a:=⟨List.prefix_refl _,Nat.le_refl _⟩
theorem Le.trans {a b c:Bd} (h:Le a b) (k:Le b c):Le a c:=⟨h.l.trans k.l,Nat.le_trans h.n k.n⟩
structure Fin (s:Bd):Prop where
 r:∀ x∈s.l,NdR x
 l:s.l.length < 2 ^ 36
 n:s.loops < 2 ^ 36
theorem Fin.le {a b:Bd} (h:Fin b) (k:Le a b):Fin a:=⟨fun x hx=>h.r x (k.l.subset hx),Nat.lt_of_le_of_lt k.l.length_le h.l,Nat.lt_of_le_of_lt k.n h.n⟩
structure Lv (a b:Bd):Prop where
 le:Le a b
 v:b.vars=a.vars
 n:b.loops=a.loops
theorem Lv.refl (a:Bd):Lv a a:=⟨Le.refl a,rfl,rfl⟩
theorem Lv.trans {a b c:Bd} (h:Lv a b) (k:Lv b c):Lv a c:=⟨h.le.trans k.le,k.v.trans h.v,k.n.trans h.n⟩
theorem Lv.setS {a b:Bd} (h:Lv a b) (x:Int):Lv a { b with state:=x }:=⟨⟨h.le.l,h.le.n⟩,h.v,h.n⟩
theorem Le.setS {a b:Bd} (h:Le a b) (x:Int):Le a { b with state:=x }:=⟨h.l,h.n⟩
theorem Le.setV {a b:Bd} (h:Le a b) (x:List Int):Le a { b with vars:=x }:=⟨h.l,h.n⟩
theorem zX (n:Nd) (s:Bd):Lv s (zn n s).2:=⟨⟨zbZ s.l n,Nat.le_refl _⟩,rfl,rfl⟩
theorem ye (c a b:Int) (s:Bd):Lv s (zw c a b s).2:=by
 unfold zw
 split
 ·exact Lv.refl s
 ·exact zX _ s
theorem za6 (t v:Int) (s:Bd):Lv s (zbQ t v s):=(zX _ s).setS _
theorem zdt (t v:Int) (s:Bd):Lv s (zbi t v s):=(zX _ s).trans ((zX _ _).trans (za6 _ _ _))
theorem zkk (v:Int) (s:Bd):Lv s (zgy v s):=(zX _ s).trans ((zX _ _).trans (za6 _ _ _))
theorem yu (c:Cx):∀ (n:Nat) (x:Ex) (s:Bd) (r:Int×Bd),exL c n x s=some r→Lv s r.2
 | 0,_,_,_,h=>by simp[exL]at h
 | n+1,x,s,r,h=>by
   have IH:=yu c n
   unfold exL at h
   split at h
   ·cases h;exact zX _ s
   split at h
   ·obtain⟨v,_,rfl⟩:=Option.map_eq_some_iff.1 h;exact Lv.refl s
   split at h
   ·simp only[Option.bind_eq_some_iff,Option.some.injEq]at h
    obtain⟨k,_,r1,h1,a,_,rfl⟩:=h
    exact(IH _ _ _ h1).trans ((zdt _ _ _).trans (zX _ _))
   split at h
   ·simp only[Option.bind_eq_some_iff,Option.some.injEq]at h
    obtain⟨k0,_,r0,h0,k1,_,r1,h1,k2,_,r2,h2,rfl⟩:=h
    have a:=(IH _ _ _ h0).trans (IH _ _ _ h1)
    have b:=(a.setS r0.2.state).trans (IH _ _ _ h2)
    exact(b.trans ((ye _ _ _ _).trans (ye _ _ _ _))).setS _
   ·simp only[Option.bind_eq_some_iff]at h
    obtain⟨k0,_,r0,h0,h⟩:=h
    have a:=IH _ _ _ h0
    split at h
    ·cases h;exact a.trans (zX _ _)
    ·simp only[Option.bind_eq_some_iff,Option.some.injEq]at h
     obtain⟨k1,_,r1,h1,rfl⟩:=h
     have b:=a.trans (IH _ _ _ h1)
     refine Lv.trans ?_ (zX _ _)
     split
     ·exact b.trans (zkk _ _)
     ·exact b
theorem zdu (c:Cx) (n:Nat):∀ (l:List Ex) (s:Bd) (r:List Int×Bd),zfd c n l s=some r→Lv s r.2∧r.1.length=l.length
 | [],s,r,h=>by cases h;exact⟨Lv.refl s,rfl⟩
 | x::l,s,r,h=>by
   unfold zfd at h
   simp only[Option.bind_eq_some_iff,Option.some.injEq]at h
   obtain⟨r1,h1,r2,h2,rfl⟩:=h
   obtain⟨a,b⟩:=zdu c n l _ _ h2
   exact⟨(yu c n _ _ _ h1).trans a,by simp[b]⟩
theorem zgz (c:Int) (a:List Int):∀ (k i:Nat) (s r:Bd),mvL c a k i s=some r→Le s r∧r.state=s.state∧r.vars.length=s.vars.length∧r.loops=s.loops
 | 0,i,s,r,h=>by cases h;exact⟨Le.refl s,rfl,rfl,rfl⟩
 | k+1,i,s,r,h=>by
   unfold mvL at h
   simp only[Option.bind_eq_some_iff]at h
   obtain⟨x,_,y,_,h⟩:=h
   have e:=zgz c a k (i+1) _ _ h
   have m:=ye c x y s
   have hs:(zw c x y s).2.state=s.state:=by unfold zw;split<;>rfl
   refine⟨(m.le.setV _).trans e.1,e.2.1.trans hs,?_,e.2.2.2.trans m.n⟩
   rw[e.2.2.1,List.length_set,m.v]
theorem zdv (base:Int):∀ (ws:List Nat) (j:Nat) (s:Bd),Le s (lvL base ws j s)∧(lvL base ws j s).state=s.state∧(lvL base ws j s).vars.length=s.vars.length∧(lvL base ws j s).loops=s.loops
 | [],j,s=>⟨Le.refl s,rfl,rfl,rfl⟩
 | w::ws,j,s=>by
   unfold lvL
   have e:=zdv base ws (j+1) { (zn ⟨3,base+j,[]⟩ s).2 with vars:=(zn ⟨3,base+j,[]⟩ s).2.vars.set w (zn ⟨3,base+j,[]⟩ s).1 }
   refine⟨((zX _ s).le.setV _).trans e.1,e.2.1,?_,e.2.2.2⟩
   rw[e.2.2.1,List.length_set];rfl
theorem zfe (lp c:Int) (old:List Int):∀ (ws:List Nat) (j:Nat) (s:Bd),Le s (lrL lp c old ws j s)∧(lrL lp c old ws j s).state=s.state∧(lrL lp c old ws j s).vars.length=s.vars.length∧(lrL lp c old ws j s).loops=s.loops
 | [],j,s=>⟨Le.refl s,rfl,rfl,rfl⟩
 | w::ws,j,s=>by
   unfold lrL
   simp only[]
   have m:=(zX ⟨25,j,[lp]⟩ s).trans (ye c (zn ⟨25,j,[lp]⟩ s).1 (old.getD w 0) (zn ⟨25,j,[lp]⟩ s).2)
   have hs:(zw c (zn ⟨25,j,[lp]⟩ s).1 (old.getD w 0) (zn ⟨25,j,[lp]⟩ s).2).2.state=s.state:=by unfold zw;split<;>rfl
   generalize zw c (zn ⟨25,j,[lp]⟩ s).1 (old.getD w 0) (zn ⟨25,j,[lp]⟩ s).2=q at *
   have e:=zfe lp c old ws (j+1) { q.2 with vars:=q.2.vars.set w q.1 }
   refine⟨(m.le.setV _).trans e.1,e.2.1.trans hs,?_,e.2.2.2.trans m.n⟩
   rw[e.2.2.1,List.length_set,m.v]
theorem zaV (c:Cx):∀ n:Nat,(∀ x s r,stL c n x s=some r→Le s r∧r.vars.length=s.vars.length)∧(∀ l s r,jA c n l s=some r→Le s r∧r.vars.length=s.vars.length)∧(∀ x s r,whL c n x s=some r→Le s r∧r.vars.length=s.vars.length)
 | 0=>⟨fun _ _ _ h=>by simp[stL]at h,fun _ _ _ h=>by simp[jA]at h,fun _ _ _ h=>by simp[whL]at h⟩
 | n+1=>by
   obtain⟨I1,I2,I3⟩:=zaV c n
   refine⟨fun x s r h=>?_,fun l s r h=>?_,fun x s r h=>?_⟩
   ·unfold stL at h
    split at h
    ·simp only[Option.bind_eq_some_iff]at h
     obtain⟨v,h1,h⟩:=h
     split at h
     ·cases h
      have a:=yu c n _ _ _ h1
      exact⟨a.le.setV _,by rw[List.length_set,a.v]⟩
     ·cases h
    split at h
    ·simp only[Option.bind_eq_some_iff,Option.some.injEq]at h
     obtain⟨i,h1,v,h2,a,_,rfl⟩:=h
     have a:=(yu c n _ _ _ h1).trans ((yu c n _ _ _ h2).trans ((zdt a.len i.1 v.2).trans (zX ⟨28,ixS (c.arrays.map (·.name)) x.name,[(zbi a.len i.1 v.2).state,i.1,v.1]⟩ _)))
     exact⟨a.le.setS _,by show List.length (Bd.vars _)=_;rw[a.v]⟩
    split at h
    ·simp only[Option.bind_eq_some_iff,Option.some.injEq]at h
     obtain⟨q,h1,a,h2,b,h3,m,h4,rfl⟩:=h
     have e1:=yu c n _ _ _ h1
     have e2:=I2 _ _ _ h2
     have e3:=I2 _ _ _ h3
     have e4:=zgz _ _ _ _ _ _ h4
     have e5:=ye q.1 a.state m.state m
     have k:Le a b:=⟨e3.1.l,e3.1.n⟩
     refine⟨(e1.le.trans (e2.1.trans (k.trans (e4.1.trans e5.le)))).setS _,?_⟩
     show(zw q.1 a.state m.state m).2.vars.length=_
     rw[e5.v,e4.2.2.1,e3.2]
     show q.2.vars.length=_
     rw[e1.v]
    split at h
    ·exact I3 _ _ _ h
    split at h
    ·simp only[Option.bind_eq_some_iff,Option.some.injEq]at h
     obtain⟨v,h1,rfl⟩:=h
     have a:=(yu c n _ _ _ h1).trans (zX ⟨29,0,[v.2.state,v.1]⟩ v.2)
     exact⟨a.le.setS _,by show List.length (Bd.vars _)=_;rw[a.v]⟩
    split at h
    ·simp only[Option.bind_eq_some_iff]at h
     obtain⟨av,h1,h⟩:=h
     split at h
     ·cases h
      have a:=(zdu c n _ _ _ h1).1
      have b:=a.le.trans (zX ⟨30,yn c.funcs x.to 0,av.2.state::av.1⟩ av.2).le
      refine⟨Le.setV (Le.trans (b.setS _) (zX _ _).le) _,?_⟩
      rw[List.length_set]
      exact congrArg List.length a.v
     ·cases h
    split at h
    ·cases h
     have a:=(zX ⟨1,0,[]⟩ s).trans (za6 (w64 (16+x.n)) (zn ⟨1,0,[]⟩ s).1 _)
     exact⟨a.le,by rw[a.v]⟩
    ·cases h;exact⟨Le.refl s,rfl⟩
   ·unfold jA at h
    cases l with
    | nil=>cases h;exact⟨Le.refl s,rfl⟩
    | cons x l=>
      simp only[Option.bind_eq_some_iff]at h
      obtain⟨q,h1,h2⟩:=h
      have a:=I1 _ _ _ h1
      have b:=I2 _ _ _ h2
      exact⟨a.1.trans b.1,b.2.trans a.2⟩
   ·unfold whL at h
    simp only[Option.bind_eq_some_iff,Option.some.injEq]at h
    obtain⟨q,h1,b,_,t,h2,d,h3,rfl⟩:=h
    have e1:=yu c n _ _ _ h1
    have e1':Le s q.2:=⟨e1.le.l,Nat.le_trans (Nat.le_succ _) e1.le.n⟩
    have p:=zX ⟨3,16 * (s.loops:Int),[]⟩ q.2
    have e2:=zdv (16 * (s.loops:Int)+1) (yE b) 0 { (zn ⟨3,16 * (s.loops:Int),[]⟩ q.2).2 with state:=(zn ⟨3,16 * (s.loops:Int),[]⟩ q.2).1 }
    have e3:=I2 _ _ _ h2
    have e4:=yu c n _ _ _ h3
    have a1:Le s d.2:=e1'.trans ((p.le.setS _).trans (e2.1.trans (e3.1.trans e4.le)))
    refine⟨?_,?_⟩
    ·refine Le.trans ?_ (zfe _ _ _ _ _ _).1
     refine Le.setS ?_ _
     refine Le.trans (Le.trans ?_ (zX _ _).le) (ye _ _ _ _).le
     refine Le.setV ?_ _
     exact a1.trans (zX _ _).le
    ·rw[(zfe _ _ _ _ _ _).2.2.1]
     show(zw _ _ _ _).2.vars.length=_
     rw[(ye _ _ _ _).v]
     show q.2.vars.length=_
     rw[e1.v]
theorem zer (b:List Bool) (k i:Nat):(b.set k true).getD i false=if k=i∧k < b.length then true else b.getD i false:=by
 rw[List.getD_eq_getElem?_getD,List.getElem?_set,List.getD_eq_getElem?_getD]
 by_cases e:k=i
 ·subst e
  by_cases h:k < b.length
  ·simp[h]
  ·simp[h,List.getElem?_eq_none (Nat.le_of_not_lt h)]
 ·simp[e]
theorem zes {names:List Nm}{n:Nat}{x:St}{l:List St}{b b':List Bool} (h:zaG names (n+1) (x::l) b=some b') :
 ∃ b1 b2 b3,b1=(if x.kind=1∨x.kind=6 then b.set (ixS names x.name) true else b)∧(x.kind=1∨x.kind=6→ixS names x.name < b.length)∧zaG names n x.thn b1=some b2∧zaG names n x.els b2=some b3∧zaG names n l b3=some b':=by
 unfold zaG at h
 simp only[]at h
 split at h
 ·cases h
 ·rename_i hno
  simp only[Option.bind_eq_some_iff]at h
  obtain⟨b2,h2,b3,h3,h4⟩:=h
  refine⟨_,b2,b3,rfl,fun hk=>?_,h2,h3,h4⟩
  by_cases c:ixS names x.name < b.length
  ·exact c
  ·exact absurd ⟨hk,by omega⟩ hno
theorem zaA (names:List Nm):∀ (n:Nat) (l:List St) (b b':List Bool),zaG names n l b=some b'→∀ i,b'.getD i false=false→b.getD i false=false
 | 0,_,_,_,h,_,_=>by simp[zaG]at h
 | n+1,[],b,b',h,i,hi=>by cases h;exact hi
 | n+1,x::l,b,b',h,i,hi=>by
   obtain⟨b1,b2,b3,e,hk,h2,h3,h4⟩:=zes h
   have:=zaA names n _ _ _ h2 i (zaA names n _ _ _ h3 i (zaA names n _ _ _ h4 i hi))
   rw[e]at this
   split at this
   ·rw[zer]at this
    split at this
    ·cases this
    ·exact this
   ·exact this
theorem zfS (names:List Nm):∀ (n m:Nat) (l:List St) (b b' c c':List Bool),zaG names n l b=some b'→zaG names m l c=some c'→∀ i,b.getD i false=false→c'.getD i false=false→b'.getD i false=false
 | 0,_,_,_,_,_,_,h,_,_,_,_=>by simp[zaG]at h
 | n+1,0,_,_,_,_,_,_,h,_,_,_=>by simp[zaG]at h
 | n+1,m+1,[],b,b',c,c',h,k,i,hb,hc=>by cases h;exact hb
 | n+1,m+1,x::l,b,b',c,c',h,k,i,hb,hc=>by
   obtain⟨b1,b2,b3,e,hk,h2,h3,h4⟩:=zes h
   obtain⟨c1,c2,c3,e',hk',k2,k3,k4⟩:=zes k
   have q3:=zaA names m _ _ _ k4 i hc
   have q2:=zaA names m _ _ _ k3 i q3
   have q1:=zaA names m _ _ _ k2 i q2
   have r1:b1.getD i false=false:=by
    rw[e]
    split
    ·rename_i hkd
     rw[e',if_pos hkd,zer]at q1
     split at q1
     ·cases q1
     ·rename_i hne
      rw[zer,if_neg (fun hh=>hne ⟨hh.1,hk' hkd⟩)]
      exact hb
    ·exact hb
   exact zfS names n m _ _ _ _ _ h4 k4 i (zfS names n m _ _ _ _ _ h3 k3 i (zfS names n m _ _ _ _ _ h2 k2 i r1 q2) q3) hc
def NaL (names:List Nm) (l:List St) (i:Nat):Prop:=∃ m b b',zaG names m l b=some b'∧b'.getD i false=false
theorem NaL.cons {names:List Nm}{x:St}{l:List St}{i:Nat} (h:NaL names (x::l) i):(x.kind=1∨x.kind=6→i≠ixS names x.name)∧NaL names x.thn i∧NaL names x.els i∧NaL names l i:=by
 obtain⟨m,b,b',h,hi⟩:=h
 cases m with
 | zero=>simp[zaG]at h
 | succ m=>
   obtain⟨b1,b2,b3,e,hk,h2,h3,h4⟩:=zes h
   have q3:=zaA names m _ _ _ h4 i hi
   have q2:=zaA names m _ _ _ h3 i q3
   have q1:=zaA names m _ _ _ h2 i q2
   refine⟨fun hkd ei=>?_,⟨m,_,_,h2,q2⟩,⟨m,_,_,h3,q3⟩,⟨m,_,_,h4,hi⟩⟩
   rw[e,if_pos hkd,zer,if_pos ⟨ei.symm,hk hkd⟩]at q1
   cases q1
theorem zn8 (base:Int):∀ (ws:List Nat) (j:Nat) (s:Bd) (i:Nat),i∉ws→(lvL base ws j s).vars[i]?=s.vars[i]?
 | [],j,s,i,_=>rfl
 | w::ws,j,s,i,h=>by
   rw[List.mem_cons,not_or]at h
   show(lvL base ws (j+1) { (zn ⟨3,base+j,[]⟩ s).2 with vars:=(zn ⟨3,base+j,[]⟩ s).2.vars.set w (zn ⟨3,base+j,[]⟩ s).1 }).vars[i]?=_
   rw[zn8 base ws (j+1) _ i h.2,List.getElem?_set,if_neg (fun e=>h.1 e.symm)]
   rfl
theorem zn9 (lp c:Int) (old:List Int):∀ (ws:List Nat) (j:Nat) (s:Bd) (i:Nat),i∉ws→(lrL lp c old ws j s).vars[i]?=s.vars[i]?
 | [],j,s,i,_=>rfl
 | w::ws,j,s,i,h=>by
   rw[List.mem_cons,not_or]at h
   show(lrL lp c old ws (j+1) { (zw c (zn ⟨25,j,[lp]⟩ s).1 (old.getD w 0) (zn ⟨25,j,[lp]⟩ s).2).2 with vars:=(zw c (zn ⟨25,j,[lp]⟩ s).1 (old.getD w 0) (zn ⟨25,j,[lp]⟩ s).2).2.vars.set w (zw c (zn ⟨25,j,[lp]⟩ s).1 (old.getD w 0) (zn ⟨25,j,[lp]⟩ s).2).1 }).vars[i]?=_
   rw[zn9 lp c old ws (j+1) _ i h.2,List.getElem?_set,if_neg (fun e=>h.1 e.symm),(ye _ _ _ _).v]
   rfl
theorem zoa (c:Int) (a:List Int):∀ (k j:Nat) (s r:Bd),mvL c a k j s=some r→∀ (i:Nat),a[i]?=s.vars[i]?→r.vars[i]?=s.vars[i]?
 | 0,j,s,r,h,i,_=>by cases h;rfl
 | k+1,j,s,r,h,i,e=>by
   unfold mvL at h
   simp only[Option.bind_eq_some_iff]at h
   obtain⟨x,hx,y,hy,h⟩:=h
   have key:((zw c x y s).2.vars.set j (zw c x y s).1)[i]?=s.vars[i]?:=by
    rw[(ye c x y s).v,List.getElem?_set]
    split
    ·rename_i ei
     subst ei
     rw[hx,hy]at e
     simp only[Option.some.injEq]at e
     subst e
     have hl:j < s.vars.length:=by
      by_cases q:j < s.vars.length
      ·exact q
      ·rw[List.getElem?_eq_none (by omega)]at hy;cases hy
     rw[if_pos hl,hy,zw,if_pos rfl]
    ·rfl
   have:=zoa c a k (j+1) _ _ h i (by rw[e];exact key.symm)
   rw[this];exact key
theorem zpe {b:List Bool}{i:Nat} (h:b.getD i false=false):i∉yE b:=fun hm=>by
 unfold yE at hm
 have:=(List.mem_filter.1 hm).2
 rw[h]at this
 cases this
theorem zpf {b:List Bool}{i:Nat} (h:i∉yE b):b.getD i false=false:=by
 by_cases c:i < b.length
 ·cases hb:b.getD i false with
  | false=>rfl
  | true=>exact absurd (List.mem_filter.2 ⟨List.mem_range.2 c,hb⟩) h
 ·rw[List.getD_eq_getElem?_getD,List.getElem?_eq_none (by omega)];rfl
theorem zob (c:Cx):∀ n:Nat,(∀ x s r,stL c n x s=some r→∀ i,(x.kind=1∨x.kind=6→i≠ixS c.names x.name)→NaL c.names x.thn i→NaL c.names x.els i→r.vars[i]?=s.vars[i]?) ∧
 (∀ l s r,jA c n l s=some r→∀ i,NaL c.names l i→r.vars[i]?=s.vars[i]?)∧(∀ x s r,whL c n x s=some r→∀ i,NaL c.names x.thn i→r.vars[i]?=s.vars[i]?)
 | 0=>⟨fun _ _ _ h=>by simp[stL]at h,fun _ _ _ h=>by simp[jA]at h,fun _ _ _ h=>by simp[whL]at h⟩
 | n+1=>by
   obtain⟨I1,I2,I3⟩:=zob c n
   refine⟨fun x s r h i hk ht he=>?_,fun l s r h i hl=>?_,fun x s r h i ht=>?_⟩
   ·unfold stL at h
    split at h
    ·rename_i h1
     simp only[Option.bind_eq_some_iff]at h
     obtain⟨v,hv,h⟩:=h
     split at h
     ·cases h
      show(v.2.vars.set _ _)[i]?=_
      rw[List.getElem?_set,if_neg (fun e=>hk (.inl h1) e.symm),(yu c n _ _ _ hv).v]
     ·cases h
    split at h
    ·simp only[Option.bind_eq_some_iff,Option.some.injEq]at h
     obtain⟨q,h1,v,h2,a,_,rfl⟩:=h
     have a:=(yu c n _ _ _ h1).trans ((yu c n _ _ _ h2).trans ((zdt a.len q.1 v.2).trans (zX ⟨28,ixS (c.arrays.map (·.name)) x.name,[(zbi a.len q.1 v.2).state,q.1,v.1]⟩ _)))
     show(Bd.vars _)[i]?=_
     rw[a.v]
    split at h
    ·simp only[Option.bind_eq_some_iff,Option.some.injEq]at h
     obtain⟨q,h1,a,h2,b,h3,m,h4,rfl⟩:=h
     have e1:=(yu c n _ _ _ h1).v
     have e2:=I2 _ _ _ h2 i ht
     have e3:b.vars[i]?=q.2.vars[i]?:=I2 _ _ _ h3 i he
     have e4:=zoa _ _ _ _ _ _ h4 i (by rw[e2,e3])
     show(zw q.1 a.state m.state m).2.vars[i]?=_
     rw[(ye _ _ _ _).v,e4,e3,e1]
    split at h
    ·exact I3 _ _ _ h i ht
    split at h
    ·simp only[Option.bind_eq_some_iff,Option.some.injEq]at h
     obtain⟨v,h1,rfl⟩:=h
     have a:=(yu c n _ _ _ h1).trans (zX ⟨29,0,[v.2.state,v.1]⟩ v.2)
     show(Bd.vars _)[i]?=_
     rw[a.v]
    split at h
    ·rename_i h6
     simp only[Option.bind_eq_some_iff]at h
     obtain⟨av,h1,h⟩:=h
     split at h
     ·cases h
      show(List.set _ _ _)[i]?=_
      rw[List.getElem?_set,if_neg (fun e=>hk (.inr h6) e.symm)]
      exact congrArg (·[i]?) (zdu c n _ _ _ h1).1.v
     ·cases h
    split at h
    ·cases h
     have a:=(zX ⟨1,0,[]⟩ s).trans (za6 (w64 (16+x.n)) (zn ⟨1,0,[]⟩ s).1 _)
     rw[a.v]
    ·cases h;rfl
   ·unfold jA at h
    cases l with
    | nil=>cases h;rfl
    | cons x l=>
      simp only[Option.bind_eq_some_iff]at h
      obtain⟨q,h1,h2⟩:=h
      obtain⟨a1,a2,a3,a4⟩:=hl.cons
      rw[I2 _ _ _ h2 i a4,I1 _ _ _ h1 i a1 a2 a3]
   ·unfold whL at h
    simp only[Option.bind_eq_some_iff,Option.some.injEq]at h
    obtain⟨q,h1,b,hb,t,h2,d,h3,rfl⟩:=h
    obtain⟨m,b0,b1,k1,k2⟩:=ht
    have hbi:=zfS c.names n m _ _ _ _ _ hb k1 i (by rw[List.getD_eq_getElem?_getD,List.getElem?_replicate];split<;>rfl) k2
    rw[zn9 _ _ _ _ _ _ i (zpe hbi)]
    show(zw _ _ _ _).2.vars[i]?=_
    rw[(ye _ _ _ _).v]
    show q.2.vars[i]?=_
    rw[(yu c n _ _ _ h1).v]
theorem wh_out {c:Cx}{n:Nat}{x:St}{b:List Bool}{base:Int}{s t:Bd}{v:List Int}{d:Int×Bd}{k:Nat} (hs:s.vars=v) (h2:zaG c.names n x.thn (List.replicate k false)=some b) (h3:jA c n x.thn (lvL base (yE b) 0 s)=some t) (h4:exL c n x.value t=some d):∀ i,i∉yE b→d.2.vars[i]?=v[i]?:=fun i hi=>by
 rw[(yu c n _ _ _ h4).v,(zob c n).2.1 _ _ _ h3 i ⟨n,_,_,h2,zpf hi⟩,zn8 _ _ _ _ i hi,hs]
def srt (l:List Nd) (n:Nd):Int:=match zbL l.length (jO l l.length) n.kids with
 | none=>0
 | some s=>if yo n.op s&&zaz l n then zdG n s else 0
theorem zq5 {op:Int}{s:List Int} (h:yo op s=true) (e:op=25):s.length=1:=by
 subst e
 unfold yo at h
 have:arI 25=(1,true):=by decide
 rw[this]at h
 simp only[Bool.true_eq_false,if_false]at h
 split at h
 ·cases h
 ·omega
theorem zjx (l:List Nd) (n:Nd):zbg (l++[n]) l.length=srt l n:=by
 rw[zfP (by simp)]
 have ht:(l++[n]).take l.length=l:=List.take_left
 have hs:jO (l++[n]) l.length=jO l l.length:=by
  have:=zdZ (l:=l++[n]) (m:=l.length) (i:=l.length) (Nat.le_refl _)
  rw[ht]at this;exact this.symm
 have hn:(l++[n])[l.length]?=some n:=by rw[List.getElem?_append_right (Nat.le_refl _),Nat.sub_self];rfl
 unfold zeK srt
 rw[hs,hn]
 simp only
 cases hk:zbL l.length (jO l l.length) n.kids with
 | none=>rfl
 | some s=>
   simp only
   by_cases c:yo n.op s=true
   ·have e:zaz l n=zaz (l++[n]) n:=by
     have:=zjk (l:=l++[n]) (m:=l.length) (n:=n) fun h25=>by
      have hl:=zgt hk
      have h1:=zq5 c h25
      cases hq:n.kids with
      | nil=>rw[hq,h1]at hl;simp at hl
      | cons k ks=>
        refine⟨k,ks,rfl,?_⟩
        have:=zen hk k (by rw[hq];exact List.mem_cons_self)
        omega
     rw[ht]at this;exact this
    rw[e]
   ·have c':yo n.op s=false:=by simpa using c
    rw[c',Bool.false_and,Bool.false_and]
theorem zjy {l:List Nd}:∀ {ks:List Int},(∀ k∈ks,0≤k∧k < l.length∧zbg l k≠0)→zbL l.length (jO l l.length) ks=some (ks.map (zbg l))
 | [],_=>rfl
 | k::ks,h=>by
   obtain⟨h1,h2,h3⟩:=h k List.mem_cons_self
   obtain⟨k,rfl⟩:=Int.eq_ofNat_of_zero_le h1
   have e:=zgu (l:=l) (i:=l.length) (j:=k) (by omega) (Nat.le_refl _)
   rw[zbL,Int.toNat_natCast,e,if_neg (by omega),zjy fun q hq=>h q (List.mem_cons_of_mem _ hq)];rfl
theorem zaW {l:List Nd}{n:Nd} (h:∀ k∈n.kids,0≤k∧k < l.length∧zbg l k≠0):srt l n=if yo n.op (n.kids.map (zbg l))&&zaz l n then zdG n (n.kids.map (zbg l))else 0:=by
 unfold srt
 rw[zjy h]
structure IsT (l:List Nd) (t:Int) (k:Int):Prop where
 lo:0≤k
 hi:k < l.length
 s:zbg l k=t
theorem IsT.le {l l':List Nd}{t k:Int} (h:IsT l t k) (hl:l<+:l'):IsT l' t k:=by
 obtain⟨m,rfl⟩:=hl
 obtain⟨h1,h2,h3⟩:=h
 obtain⟨k,rfl⟩:=Int.eq_ofNat_of_zero_le h1
 exact⟨h1,by rw[List.length_append];omega,by rw[zjl (by omega)];exact h3⟩
section
variable {l:List Nd}
theorem zpg (n:Int):srt l ⟨1,n,[]⟩=1:=by
 rw[zaW (by simp)];simp[yo,arI,zbJ,yz,zaz,zdG]
theorem zph {n:Int} (h0:0≤n) (h1:n≤5):srt l ⟨2,n,[]⟩=1:=by
 rw[zaW (by simp)];simp[yo,arI,zbJ,yz,zaz,za5,zdG,h0,h1]
theorem zq6 {n:Int} (h0:0≤n) (h1:n≤255):srt l ⟨3,n,[]⟩=if n.tmod 16=0 then 2 else 1:=by
 rw[zaW (by simp)];simp[yo,arI,zbJ,yz,zaz,za5,zdG,h0,h1]
theorem zpi:srt l ⟨26,0,[]⟩=2:=by
 rw[zaW (by simp)];simp[yo,arI,zbJ,yz,zaz,za5,zdG]
theorem zu2 {op a b:Int} (ha:IsT l 1 a) (hb:IsT l 1 b) (h0:4≤op) (h1:op≤19):srt l ⟨op,0,[a,b]⟩=1:=by
 have q:∀ k:Int,(k < 4∨19 < k)→¬ op=k:=fun k hk e=>by omega
 have har:arI op=(2,true):=by
  unfold arI
  rw[if_neg (by omega),if_neg (by omega),if_neg (by omega),if_neg (by omega),if_neg (by omega),if_pos ⟨h0,h1⟩]
 rw[zaW (fun k hk=>by
  simp only[List.mem_cons,List.not_mem_nil,or_false]at hk
  rcases hk with rfl|rfl
  ·exact⟨ha.lo,ha.hi,by rw[ha.s];decide⟩
  ·exact⟨hb.lo,hb.hi,by rw[hb.s];decide⟩)]
 simp only[List.map_cons,List.map_nil,ha.s,hb.s]
 have v:yo op [1,1]=true:=by
  unfold yo
  rw[har,if_neg (by simp),if_neg (by simp),if_neg (q 31 (by omega)),if_neg (q 30 (by omega)),if_neg (fun h=>q 22 (by omega) h.1)]
  unfold zbJ
  rw[if_neg (q 22 (by omega)),if_neg (by have:=q 23 (by omega);have:=q 27 (by omega);have:=q 29 (by omega);omega),if_neg (q 28 (by omega)),if_neg (q 24 (by omega)),if_neg (q 25 (by omega))];rfl
 have i:zaz l ⟨op,0,[a,b]⟩=true:=by
  unfold zaz za5
  simp only[]
  rw[if_neg (q 1 (by omega)),if_neg (q 27 (by omega)),if_neg (q 2 (by omega)),if_neg (q 3 (by omega)),if_neg (by have:=q 23 (by omega);have:=q 28 (by omega);omega),if_neg (q 30 (by omega)),if_neg (q 31 (by omega)),if_neg (q 25 (by omega))];rfl
 rw[v,i]
 simp only[Bool.and_self,if_true]
 unfold zdG
 simp only[]
 rw[if_neg (q 31 (by omega)),if_neg (by omega),if_neg (q 22 (by omega)),if_neg (fun h=>q 3 (by omega) h.1),if_neg (fun h=>q 25 (by omega) h.1)]
theorem srt_un {op a:Int} (ha:IsT l 1 a) (h0:op=20∨op=21):srt l ⟨op,0,[a]⟩=1:=by
 rw[zaW (fun k hk=>by
  simp only[List.mem_cons,List.not_mem_nil,or_false]at hk
  subst hk
  exact⟨ha.lo,ha.hi,by rw[ha.s];decide⟩)]
 simp only[List.map_cons,List.map_nil,ha.s]
 rcases h0 with rfl|rfl<;>simp[yo,arI,zbJ,yz,zaz,za5,zdG]
theorem zu3 {t c a b:Int} (hc:IsT l 1 c) (ha:IsT l t a) (hb:IsT l t b) (ht:t=1∨t=2):srt l ⟨22,0,[c,a,b]⟩=t:=by
 rw[zaW (fun k hk=>by
  simp only[List.mem_cons,List.not_mem_nil,or_false]at hk
  rcases hk with rfl|rfl|rfl
  ·exact⟨hc.lo,hc.hi,by rw[hc.s];decide⟩
  ·exact⟨ha.lo,ha.hi,by rw[ha.s];omega⟩
  ·exact⟨hb.lo,hb.hi,by rw[hb.s];omega⟩)]
 simp only[List.map_cons,List.map_nil,ha.s,hb.s,hc.s]
 rcases ht with rfl|rfl<;>simp[yo,arI,zbJ,yz,zaz,za5,zdG]
theorem zna {x y a b:Int} (hx:x≠0) (hy:y≠0) (ha:IsT l x a) (hb:IsT l y b):∀ k∈[a,b],0≤k∧k < l.length∧zbg l k≠0:=fun k hk=>by
 simp only[List.mem_cons,List.not_mem_nil,or_false]at hk
 rcases hk with rfl|rfl
 ·exact⟨ha.lo,ha.hi,by rw[ha.s];exact hx⟩
 ·exact⟨hb.lo,hb.hi,by rw[hb.s];exact hy⟩
theorem zq7 {n s a:Int} (hs:IsT l 2 s) (ha:IsT l 1 a) (h0:0≤n) (h1:n≤3):srt l ⟨23,n,[s,a]⟩=1:=by
 rw[zaW (zna (by decide) (by decide) hs ha)]
 simp[hs.s,ha.s,yo,arI,zbJ,yz,zaz,za5,zdG,h0,h1]
theorem zpj {n s a:Int} (hs:IsT l 2 s) (ha:IsT l 1 a) (h0:1≤n) (h1:n≤1000016):srt l ⟨27,n,[s,a]⟩=2:=by
 rw[zaW (zna (by decide) (by decide) hs ha)]
 simp[hs.s,ha.s,yo,arI,zbJ,yz,zaz,za5,zdG,h0,h1]
theorem zu4 {s a:Int} (hs:IsT l 2 s) (ha:IsT l 1 a):srt l ⟨29,0,[s,a]⟩=2:=by
 rw[zaW (zna (by decide) (by decide) hs ha)]
 simp[hs.s,ha.s,yo,arI,zbJ,yz,zaz,za5,zdG]
theorem zpk {n s a b:Int} (hs:IsT l 2 s) (ha:IsT l 1 a) (hb:IsT l 1 b) (h0:0≤n) (h1:n≤3):srt l ⟨28,n,[s,a,b]⟩=2:=by
 rw[zaW (fun k hk=>by
  simp only[List.mem_cons,List.not_mem_nil,or_false]at hk
  rcases hk with rfl|rfl|rfl
  ·exact⟨hs.lo,hs.hi,by rw[hs.s];decide⟩
  ·exact⟨ha.lo,ha.hi,by rw[ha.s];decide⟩
  ·exact⟨hb.lo,hb.hi,by rw[hb.s];decide⟩)]
 simp[hs.s,ha.s,hb.s,yo,arI,zbJ,yz,zaz,za5,zdG,h0,h1]
theorem srt_cr {s:Int} (hs:IsT l 2 s):srt l ⟨24,0,[s]⟩=1:=by
 rw[zaW (fun k hk=>by
  simp only[List.mem_cons,List.not_mem_nil,or_false]at hk
  subst hk
  exact⟨hs.lo,hs.hi,by rw[hs.s];decide⟩)]
 simp[hs.s,yo,arI,zbJ,yz,zaz,za5,zdG]
theorem zfT:∀ {av:List Int},(∀ a∈av,IsT l 1 a)→av.map (zbg l)=List.replicate av.length 1
 | [],_=>rfl
 | a::av,h=>by
   rw[List.map_cons,(h a List.mem_cons_self).s,zfT fun x hx=>h x (List.mem_cons_of_mem _ hx)];rfl
theorem zq8 {n s:Int}{av:List Int} (hs:IsT l 2 s) (ha:∀ a∈av,IsT l 1 a) (hl:av.length≤6) (h0:0≤n) (h1:n≤7):srt l ⟨30,n,s::av⟩=2:=by
 rw[zaW (fun k hk=>by
  rcases List.mem_cons.1 hk with rfl|hk
  ·exact⟨hs.lo,hs.hi,by rw[hs.s];decide⟩
  ·exact⟨(ha k hk).lo,(ha k hk).hi,by rw[(ha k hk).s];decide⟩)]
 simp only[List.map_cons,hs.s,zfT ha]
 have v:yo 30 (2::List.replicate av.length 1)=true:=by
  have a:arI 30=(-1,true):=by decide
  unfold yo
  rw[a]
  simp only[Bool.true_eq_false,if_false]
  rw[if_neg (by omega),if_neg (by omega),if_pos trivial]
  simp only[List.length_cons,List.length_replicate,List.headD_cons,List.tail_cons,Bool.and_eq_true,decide_eq_true_eq]
  refine⟨⟨⟨by omega,by omega⟩,trivial⟩,?_⟩
  rw[List.all_eq_true]
  intro x hx
  rw[List.eq_of_mem_replicate hx];rfl
 have i:zaz l ⟨30,n,s::av⟩=true:=by simp[zaz,za5,h0,h1]
 rw[v,i]
 simp[zdG]
theorem zq9 {n s d st:Int}{av bs:List Int} (hs:IsT l 2 s) (ha:∀ a∈av,IsT l 1 a) (hd:IsT l 1 d) (hst:IsT l 2 st) (hb:∀ a∈bs,IsT l 1 a) (hl:av.length=bs.length) (hl2:av.length≤15) (h0:0≤n) (h1:n≤15):srt l ⟨31,n,s::av++[d,st]++bs⟩=3:=by
 rw[zaW (fun k hk=>by
  simp only[List.mem_append,List.mem_cons,List.not_mem_nil,or_false]at hk
  rcases hk with ((rfl|hk)|rfl|rfl)|hk
  ·exact⟨hs.lo,hs.hi,by rw[hs.s];decide⟩
  ·exact⟨(ha k hk).lo,(ha k hk).hi,by rw[(ha k hk).s];decide⟩
  ·exact⟨hd.lo,hd.hi,by rw[hd.s];decide⟩
  ·exact⟨hst.lo,hst.hi,by rw[hst.s];decide⟩
  ·exact⟨(hb k hk).lo,(hb k hk).hi,by rw[(hb k hk).s];decide⟩)]
 have hm:(s::av++[d,st]++bs).map (zbg l)=2::(List.replicate av.length 1++1::2::List.replicate av.length 1):=by
  simp only[List.map_append,List.map_cons,List.map_nil,hs.s,hd.s,hst.s,zfT ha,zfT hb,hl]
  simp
 simp only[]
 rw[hm]
 generalize hn:av.length=m at *
 have hlen:(2::(List.replicate m (1:Int)++1::2::List.replicate m 1)).length=2 * m+3:=by simp;omega
 have v:yo 31 (2::(List.replicate m 1++1::2::List.replicate m 1))=true:=by
  have a:arI 31=(-1,true):=by decide
  unfold yo
  rw[a]
  simp only[Bool.true_eq_false,if_false]
  rw[if_neg (by omega),if_pos trivial]
  have hml:=zmY (2::(List.replicate m (1:Int)++1::2::List.replicate m 1)) (by omega) (by omega)
  have e1:(2 * m+3) / 2=m+1:=by omega
  rw[hlen]at hml ⊢
  rw[hml,e1]
  have hones:∀ k,zmX (List.replicate k (1:Int))=true:=fun k=>by
   rw[zmX,List.all_eq_true]
   intro x hx
   rw[List.eq_of_mem_replicate hx];rfl
  have h1:((2::(List.replicate m (1:Int)++1::2::List.replicate m 1)).drop 1).take (m+1)=List.replicate (m+1) 1:=by
   rw[List.drop_succ_cons,List.drop_zero,List.take_append,List.length_replicate,List.take_of_length_le (by simp),show m+1 - m=1 by omega]
   rw[List.replicate_succ'];rfl
  have h2:(2::(List.replicate m (1:Int)++1::2::List.replicate m 1)).getD (m+1+1) 0=2:=by
   rw[List.getD_cons_succ,List.getD_eq_getElem?_getD,List.getElem?_append_right (by simp),List.length_replicate,show m+1 - m=1 by omega];rfl
  have h3:(2::(List.replicate m (1:Int)++1::2::List.replicate m 1)).drop (m+1+2)=List.replicate m 1:=by
   rw[List.drop_succ_cons,List.drop_append,List.length_replicate,List.drop_of_length_le (by simp),List.nil_append,show m+1+1 - m=2 by omega];rfl
  rw[h1,h2,h3,hones,hones]
  have e4:lvI (((2 * m+3:Nat):Nat):Int)≤16:=by rw[zif _ (by omega)];omega
  simp only[List.headD_cons,Bool.and_eq_true,decide_eq_true_eq]
  refine⟨⟨⟨by omega,by omega⟩,e4⟩,⟨⟨⟨trivial,trivial⟩,trivial⟩,trivial⟩⟩
 have i:zaz l ⟨31,n,s::av++[d,st]++bs⟩=true:=by simp[zaz,za5,h0,h1]
 rw[v,i]
 simp[zdG]
theorem zra {n k:Int}{q:Nd} (hk:IsT l 3 k) (hq:l[k.toNat]?=some q) (h0:0≤n) (h1:n < lvI q.kids.length):srt l ⟨25,n,[k]⟩=if n=0 then 2 else 1:=by
 rw[zaW (fun j hj=>by
  simp only[List.mem_cons,List.not_mem_nil,or_false]at hj
  subst hj
  exact⟨hk.lo,hk.hi,by rw[hk.s];decide⟩)]
 have i:zaz l ⟨25,n,[k]⟩=true:=by
  have:zgs l k=q.kids.length:=by rw[zgs,hq]
  simp[zaz,za5,this,h0];omega
 simp only[List.map_cons,List.map_nil,hk.s]
 rw[i]
 by_cases c:n=0<;>simp[yo,arI,zbJ,yz,zdG,c]
end
def Wf (l:List Nd):Prop:=∀ i:Nat,i < l.length→zbg l i≠0
theorem ziA {l:List Nd}{i:Nat} (hi:i≤l.length):∀ {ks s:List Int},zbL i (jO l i) ks=some s→zbL l.length (jO l l.length) ks=some s
 | [],s,h=>by cases h;rfl
 | k::ks,s,h=>by
   rw[zbL]at h
   split at h
   ·cases h
   ·rename_i c
    obtain⟨t,ht,rfl⟩:=Option.map_eq_some_iff.1 h
    obtain⟨k,rfl⟩:=Int.eq_ofNat_of_zero_le (by omega:0≤k)
    rw[Int.toNat_natCast]at c
    have e1:=zgu (l:=l) (i:=i) (j:=k) (by omega) hi
    have e2:=zgu (l:=l) (i:=l.length) (j:=k) (by omega) (Nat.le_refl _)
    rw[zbL,Int.toNat_natCast,e2,if_neg (by rw[e1]at c;omega),ziA hi ht]
    simp only[Option.map_some,Int.toNat_natCast,e1]
theorem zrb {l:List Nd}{i:Nat}{n:Nd} (hn:l[i]?=some n) (h:zbg l i≠0):zbg l i=srt l n:=by
 have hi:i < l.length:=by
  by_cases c:i < l.length
  ·exact c
  ·rw[List.getElem?_eq_none (by omega)]at hn;cases hn
 rw[zfP hi]at h ⊢
 unfold zeK at h ⊢
 unfold srt
 rw[hn]at h ⊢
 simp only at h ⊢
 cases hk:zbL i (jO l i) n.kids with
 | none=>rw[hk]at h;exact absurd rfl h
 | some s=>rw[ziA (by omega) hk]
theorem zlR {l:List Nd}{n:Nd}{t:Int} (hw:Wf l) (h:srt l n=t) (ht:t≠0):IsT (zbh l n) t (zbP l n)∧Wf (zbh l n):=by
 unfold zbh
 split
 ·rename_i c
  have hg:=zlP c
  refine⟨⟨by omega,by omega,?_⟩,hw⟩
  rw[zrb hg (hw _ c)];exact h
 ·rename_i c
  have:=zkj l n
  have e:zbP l n=l.length:=by omega
  rw[e]
  refine⟨⟨by omega,by rw[List.length_append];simp;omega,?_⟩,fun i hi=>?_⟩
  ·rw[zjx];exact h
  ·rw[List.length_append,List.length_singleton]at hi
   by_cases q:i < l.length
   ·rw[zjl q];exact hw i q
   ·obtain rfl:i=l.length:=by omega
    rw[zjx,h];exact ht
def jG (n:Int):Prop:=-9223372036854775808≤n∧n < 9223372036854775808
mutual
def rgE:Ex→Prop
 | .mk _ n _ _ ks=>jG n∧zbj ks
def zbj:List Ex→Prop
 | []=>True
 | e::es=>rgE e∧zbj es
end
theorem zrc (x:Ex):rgE x↔jG x.n∧zbj x.kids:=by cases x;rw[rgE];rfl
mutual
def rg1:St→Prop
 | .mk _ _ _ _ a v args th el=>rgE a∧rgE v∧zbj args∧rgS th∧rgS el
def rgS:List St→Prop
 | []=>True
 | x::l=>rg1 x∧rgS l
end
theorem zkl (x:St):rg1 x↔rgE x.at_∧rgE x.value∧zbj x.args∧rgS x.thn∧rgS x.els:=by cases x;rw[rg1];rfl
namespace tyG1
def tyF:=And.intro @tq3 (And.intro @tq9 (And.intro @zcg (And.intro @tq2 (And.intro @tq154 (And.intro @zfD (@zfC))))))
end tyG1
open tyG1
noncomputable def code9:{ c:SC // slim 14 (Try.f9.body.getD .skip)=c }:=by
 refine⟨?_,?_⟩
 rotate_left
 ·simp only[Try.f9,Option.getD_some,slim,zT,zR,zY,zZ,Nat.blt,Nat.ble]
  rfl
noncomputable def code57:{ c:SC // slim 25 (Try.f57.body.getD .skip)=c }:=by
 refine⟨?_,?_⟩
 rotate_left
 ·simp only[Try.f57,Option.getD_some,slim,zT,zR,zY,zZ,Nat.blt,Nat.ble]
  rfl
noncomputable def code56:{ c:SC // slim 7 (Try.f56.body.getD .skip)=c }:=by
 refine⟨?_,?_⟩
 rotate_left
 ·simp only[Try.f56,Option.getD_some,slim,zT,zR,zY,zZ,Nat.blt,Nat.ble]
  rfl
def ym (n m:Int):Int:=if n.tmod m < 0 then w64 (n.tmod m+m)else n.tmod m
theorem yB {n m:Int} (h:0 < m) (h2:m < 2 ^ 62):0≤ym n m∧ym n m < m:=by
 unfold ym
 have h3:=Int.tmod_lt_of_pos n h
 have h4:-m < n.tmod m:=by
  have:=Int.tmod_lt_of_pos (-n) h
  rw[Int.neg_tmod]at this
  omega
 split
 ·unfold w64
  rw[IntWalk.i64_in _ (by omega)];omega
 ·omega
def pkE (x:Int×Int):List AV:=[.int .i64 x.1,.int .i64 x.2]
theorem zoc (x y:Int×Int) (h:pkE x=pkE y):x=y:=by
 simp only[pkE,List.cons.injEq,AV.int.injEq,and_true,true_and]at h
 exact Prod.ext h.1 h.2
theorem zrd (ρ:Nat→Int) (x:Int×Int) (hx:x.2≠0):Con Try.prog ρ 9 (pkE x) (.int .i64 (ym x.1 x.2)):=yO fit (pls:=pls) (l:=[]) trivial (.cons (.int _ _) (.cons (.int _ _) .nil)) (.int _ _) (by
 have hw:=ju 9
 obtain⟨n,m⟩:=x
 rw[pkE]
 simp only[]at hx ⊢
 refine zi (M:=14) (rs:=[.tmp 4]) (hw.call _) hw.ice hw.froz Try.func9 rfl rfl code9.2 rfl ?_;dsimp only[code9,zH,Nat.reduceAdd]
 repeat' (first
  | (apply Rx.nl ?_;clear hK K)|apply Rx.o ?_|(apply Rx.cd (fun hb hbp=>?_) (fun hb hbp=>?_)<;>try (cases hb;done))|apply Wp.seq ?_|(apply zd fun K hK=>?_)|apply zh ?_|apply Rx.rt ?_)
 all_goals (refine⟨eI,_,eR,?_⟩;try simp only[zp])
 all_goals (simp_all[ym];try omega))
noncomputable def zkm:En:=⟨9,false,spP (fun x=>x.2≠0) pkE fun x=>.int .i64 (ym x.1 x.2)⟩
theorem zjz (ρ:Nat→Int):zaF Try.prog ρ zkm:=yW fun x hx=>zrd ρ x hx
theorem zet {l:List En} (hl:∀ ar,yJ l 9 ar=zkm.sp ar) (n m:Int) (hm:m≠0) (H:Hp):zu Try.prog (zJ pls l) 9 [.int .i64 n,.int .i64 m] H fun v H'=>v=.int .i64 (ym n m)∧H'=H:=
 yd (enc:=pkE) (ok:=fun x=>x.2≠0) (out:=fun x=>.int .i64 (ym x.1 x.2)) zoc (x:=(n,m)) (hl _) hm
def znb:List Int:=[0,1,-1,2,-9223372036854775808,9223372036854775807,4294967296,-2147483648,63,64]
def zeL (n raw:Int):Int:=if ym n 24 < 10 then znb.getD (ym n 24).toNat 0 else if ym n 24 < 22 then w64 (ym (w64 (n.tdiv 24)) 17 - 6)else raw
theorem bsEd (H:Hp):zB Try.prog H 154 10 [(0,.int .i64 0),(1,.int .i64 1),(2,.int .i64 (-1)),(3,.int .i64 2),(4,.int .i64 (-9223372036854775808)),(5,.int .i64 9223372036854775807),(6,.int .i64 4294967296),(7,.int .i64 (-2147483648)),(8,.int .i64 63),(9,.int .i64 64)]=some (.sl H.next 0 10 1,H.alloc (.cells (znb.map fun n=>.int .i64 n) 0 true)):=by kernel_rfl
theorem zre (ρ:Nat→Int) (x:Int×Int):Con Try.prog ρ 57 (pkE x) (.int .i64 (zeL x.1 x.2)):=yO fit (pls:=pls) (l:=[zkm]) ⟨zjz ρ,trivial⟩ (.cons (.int _ _) (.cons (.int _ _) .nil)) (.int _ _) (by
 have hw:Plain (zJ pls [zkm]) 57:=yD (fun _=>rfl) rfl
 obtain⟨n,m⟩:=x
 have hr:=yB (n:=n) (m:=24) (by omega) (by omega)
 have hp:0≤ym n 24:=hr.1
 rw[pkE]
 simp only[]
 have hq:(24:Int)≠0:=by decide
 refine zi (M:=25) (rs:=[.tmp 4]) (hw.call _) hw.ice hw.froz Try.func57 rfl rfl code57.2 rfl ?_;dsimp only[code57,zH,Nat.reduceAdd]
 have gh0:=@bsEd
 repeat' (first
  | (apply Rx.nl ?_;clear hK K)|apply Rx.o ?_|(apply Rx.call ?_;first|refine jM (zet (fun _=>rfl) _ _ (by decide) _) ?_)|(apply Rx.cd (fun hb hbp=>?_) (fun hb hbp=>?_)<;>try (cases hb;done))|apply Wp.seq ?_|(apply zd fun K hK=>?_)|apply Wp.block ?_|apply zh ?_|apply Rx.rt ?_)
 ·have hlt:(ym n 24).toNat < 10:=by omega
  have hg:znb[(ym n 24).toNat]?=some (znb.getD (ym n 24).toNat 0):=by
   rw[List.getD_eq_getElem?_getD,List.getElem?_eq_getElem (by simpa [znb]using hlt)];rfl
  repeat' (first
   | (apply Rx.nl ?_;clear hK K)|apply Ry.o ?_|apply Wp.seq ?_|(apply zd fun K hK=>?_)|apply Wp.block ?_|apply zh ?_|apply Rx.rt ?_)
  all_goals (refine⟨eI,_,eR,?_⟩;try simp only[zp])
  rw[zeL,if_pos (by assumption)]
 ·all_goals (refine⟨eI,_,eR,?_⟩;try simp only[zp])
  rw[zeL,if_neg (by assumption),if_pos (by assumption)]
 ·all_goals (refine⟨eI,_,eR,?_⟩;try simp only[zp])
  rw[zeL,if_neg (by assumption),if_neg (by assumption)])
noncomputable def zrf:En:=⟨57,false,spP (fun _=>True) pkE fun x=>.int .i64 (zeL x.1 x.2)⟩
theorem zpl (ρ:Nat→Int):zaF Try.prog ρ zrf:=yW fun x hx=>zre ρ x
theorem zu5 {l:List En} (hl:∀ ar,yJ l 57 ar=zrf.sp ar) (n m:Int) (H:Hp):zu Try.prog (zJ pls l) 57 [.int .i64 n,.int .i64 m] H fun v H'=>v=.int .i64 (zeL n m)∧H'=H:=
 yd (enc:=pkE) (ok:=fun _=>True) (out:=fun x=>.int .i64 (zeL x.1 x.2)) zoc (x:=(n,m)) (hl _) trivial
def yF (f:Int):List (List UInt8):=if f=0 then [[120],[121],[105],[106]]else [[110],[105]]
theorem zbk (f:Int):(yF f).length=4∨(yF f).length=2:=by unfold yF;split<;>simp
theorem nms4 (H:Hp) (a b c d:List UInt8):zB Try.prog H 47 4 [(0,.str a),(1,.str b),(2,.str c),(3,.str d)]=some (.sl H.next 0 4 1,H.alloc (.cells [.str a,.str b,.str c,.str d] 0 true)):=by kernel_rfl
theorem nms2 (H:Hp) (a b:List UInt8):zB Try.prog H 47 2 [(0,.str a),(1,.str b)]=some (.sl H.next 0 2 1,H.alloc (.cells [.str a,.str b] 0 true)):=by kernel_rfl
theorem zpm (ρ:Nat→Int) (f:Int):Con Try.prog ρ 56 [.int .i64 f] (jg (yF f)):=zbI (m:=3) (cfg:=zJ pls []) fit (zgX ρ) (fun f args r h=>by simp[zJ,yJ]at h) (.cons (.int _ _) .nil) (by
 have hw:=ju 56
 refine zi (M:=7) (rs:=[.tmp 2]) (hw.call _) hw.ice hw.froz Try.func56 rfl rfl code56.2 rfl ?_;dsimp only[code56,zH,Nat.reduceAdd]
 have gh0:=@nms4
 have gh1:=@nms2
 repeat' (first
  | (apply Rx.nl ?_;clear hK K)|apply Rx.o ?_|(apply Rx.cd (fun hb hbp=>?_) (fun hb hbp=>?_)<;>try (cases hb;done))|apply Wp.seq ?_|(apply zd fun K hK=>?_)|apply zh ?_|apply Rx.rt ?_)
 ·all_goals (refine⟨eI,_,eR,?_⟩;try simp only[zp])
  rw[yF,if_pos (by assumption)];rfl
 ·all_goals (refine⟨eI,_,eR,?_⟩;try simp only[zp])
  rw[yF,if_neg (by assumption)];rfl)
noncomputable def enNms:En:=⟨56,false,spP (fun _=>True) (fun n:Int=>[.int .i64 n]) fun f=>jg (yF f)⟩
theorem zrg (ρ:Nat→Int):zaF Try.prog ρ enNms:=yW fun x hx=>zpm ρ x
theorem zlS {l:List En} (hl:∀ ar,yJ l 56 ar=enNms.sp ar) (f:Int) (H:Hp):zu Try.prog (zJ pls l) 56 [.int .i64 f] H fun v H'=>v=jg (yF f)∧H'=H:=
 yd (enc:=fun n:Int=>[.int .i64 n]) (ok:=fun _=>True) (out:=fun f=>jg (yF f)) zlI (x:=f) (hl _) trivial
end Go.Proofs.Ytpbcimfiofmoeaa
