/- Parts: L4b, P4e, V5, SemT, SemV, SpecL, LoK, SpecM, SpecN, SpecT, Rg, G1. -/
import Derived.Test.YtpbcimfiofmoeaaSDH
set_option linter.unusedSimpArgs false
set_option linter.unusedVariables false
set_option linter.unusedSectionVars false
set_option linter.defProp false
set_option maxHeartbeats 32000000
namespace Go.Proofs.Ytpbcimfiofmoeaa
set_option maxRecDepth 20000
open Go Go.Ab
def jw (p:Pr):List (List UInt8):=p.funcs.map (·.name)
def zg6 (p:Pr):Bool:=zM [] (zB p)||zM [] (jw p)||p.funcs.any fun f=>zM [] (zB p++(f.params++f.locals))
theorem zd4:∀ (a b seen:List (List UInt8)),zM seen (a++b)=(zM seen a||zM (seen++a) b)
 | [],b,seen=>by simp[zM]
 | x::a,b,seen=>by rw[List.cons_append,zM,zM,zd4 a b,List.append_assoc,List.singleton_append,Bool.or_assoc]
theorem zen (an:List (List UInt8)):∀ (fs:List Fu) (seen:List (List UInt8)),zim an seen fs=(zM seen (fs.map (·.name))||fs.any fun f=>zM an (f.params++f.locals))
 | [],seen=>rfl
 | f::fs,seen=>by
   rw[zim,List.map_cons,zM,List.any_cons,zen an fs]
   cases yz seen f.name<;>cases zM an (f.params++f.locals)<;>cases zM (seen++[f.name]) (fs.map (·.name))<;>rfl
theorem znZ (p:Pr):zg6 p=zgl p:=by
 rw[zg6,zgl,zen]
 cases h:zM [] (zB p)
 ·have e:(fun f:Fu=>zM [] (zB p++(f.params++f.locals)))=fun f=>zM (zB p) (f.params++f.locals):=by
   funext f;rw[zd4,h];rfl
  rw[e];rfl
 ·rfl
def jE:List Fu→List (Nm×Int)→List (Nm×Int)
 | [],m=>m
 | f::l,m=>jE l (setV m f.name f.params.length)
theorem ze8 (s a:Nm) (x:Int):∀ m:List (Nm×Int),lkV (setV m a x) s=if s=a then x else lkV m s
 | []=>by simp[setV,lkV]
 | q::l=>by
   by_cases h:a=q.1
   ·simp only[setV,h,if_true,lkV]
    split<;>rfl
   ·simp only[setV,h,if_false,lkV,ze8 s a x l]
    by_cases h2:s=q.1
    ·rw[if_pos h2,if_pos h2,if_neg (fun e=>h (by rw[← e,h2]))]
    ·rw[if_neg h2,if_neg h2]
theorem zn0 (s a:Nm) (x:Int):∀ m:List (Nm×Int),zbN (setV m a x) s=(decide (s=a)||zbN m s)
 | []=>by
   by_cases h:s=a<;>simp[setV,zbN,h]
 | q::l=>by
   by_cases h:a=q.1
   ·by_cases h2:s=q.1<;>simp[setV,zbN,h,h2]
   ·have e:=zn0 s a x l
    by_cases h2:s=q.1
    ·simp[setV,zbN,h,h2]
    ·simp[setV,zbN,h,h2,e]
theorem yU (a b:List (List UInt8)) (s:List UInt8):yz (a++b) s=(yz a s||yz b s):=by unfold yz;rw[List.any_append]
theorem zaK (a s:List UInt8):yz [a] s=decide (s=a):=by
 unfold yz;simp only[List.any_cons,List.any_nil,Bool.or_false]
 by_cases h:s=a
 ·simp[h]
 ·have:¬ a=s:=fun e=>h e.symm
  simp[h,this]
theorem zjn (s:Nm):∀ (l:List Fu) (m:List (Nm×Int)),zbN (jE l m) s=(zbN m s||yz (l.map (·.name)) s)
 | [],m=>by simp[jE,yz]
 | f::l,m=>by
   rw[jE,zjn s l,zn0,List.map_cons,show f.name::l.map (·.name)=[f.name]++l.map (·.name)from rfl,yU,zaK]
   cases decide (s=f.name)<;>cases zbN m s<;>simp
theorem zjo (s:Nm):∀ (l:List Fu) (m:List (Nm×Int)),yz (l.map (·.name)) s=false→lkV (jE l m) s=lkV m s
 | [],m,_=>rfl
 | f::l,m,h=>by
   rw[List.map_cons,show f.name::l.map (·.name)=[f.name]++l.map (·.name)from rfl,yU,zaK,Bool.or_eq_false_iff,decide_eq_false_iff_not]at h
   rw[jE,zjo s l _ h.2,ze8,if_neg h.1]
theorem zcz:∀ (l seen:List (List UInt8)),zM seen l=false→∀ s,yz seen s=true→yz l s=false
 | [],_,_,_,_=>rfl
 | a::l,seen,h,s,hs=>by
   rw[zM,Bool.or_eq_false_iff]at h
   rw[show a::l=[a]++l from rfl,yU,zaK,zcz l _ h.2 s (by rw[yU,hs];rfl),Bool.or_false,decide_eq_false_iff_not]
   intro e;rw[← e]at h;rw[hs]at h;simp at h
theorem zir:∀ (l:List Fu) (s:List UInt8) (i:Int),0≤i→(yz (l.map (·.name)) s=decide (0≤yw l s i))
 | [],s,i,_=>by simp[yz,yw]
 | f::l,s,i,hi=>by
   rw[List.map_cons,show f.name::l.map (·.name)=[f.name]++l.map (·.name)from rfl,yU,zaK,yw]
   by_cases h:f.name=s
   ·rw[if_pos h,decide_eq_true h.symm,Bool.true_or];simpa using hi
   ·rw[if_neg h,decide_eq_false (fun e=>h e.symm),Bool.false_or,zir l s (i+1) (by omega)]
theorem zjp (p:Pr) (s:Nm):∀ (l:List Fu) (seen:List (List UInt8)) (m:List (Nm×Int)) (i:Nat),p.funcs.drop i=l→zM seen (l.map (·.name))=false→0≤yw l s i →
 ∃ f,p.funcs[(yw l s i).toNat]?=some f∧lkV (jE l m) s=f.params.length
 | [],_,_,i,_,_,h=>by simp[yw]at h
 | f::l,seen,m,i,hd,hn,h=>by
   have hlt:i < p.funcs.length:=by
    have:=congrArg List.length hd;simp at this;omega
   rw[List.drop_eq_getElem_cons hlt,List.cons.injEq]at hd
   rw[List.map_cons,zM,Bool.or_eq_false_iff]at hn
   rw[yw]at h ⊢
   by_cases e:f.name=s
   ·rw[if_pos e]
    refine⟨f,?_,?_⟩
    ·rw[Int.toNat_natCast,List.getElem?_eq_getElem hlt,hd.1]
    ·have h3:yz (l.map (·.name)) s=false:=zcz _ _ hn.2 s (by rw[yU,zaK,decide_eq_true e.symm,Bool.or_true])
     rw[jE,zjo s l _ h3,ze8,if_pos e.symm]
   ·rw[if_neg e]at h ⊢
    exact zjp p s l (seen++[f.name]) _ (i+1) hd.2 hn.2 h
theorem zuC (p:Pr) (s:Nm):zbN (jE p.funcs []) s=decide (0≤yw p.funcs s 0):=by
 rw[zjn,zir _ _ 0 (by omega)];rfl
theorem lkV_fn {p:Pr} (hd:zM [] (jw p)=false) {s:Nm} (h:0≤yw p.funcs s 0):lkV (jE p.funcs []) s=zi6 p s:=by
 obtain⟨f,h1,h2⟩:=zjp p s p.funcs [] [] 0 rfl hd h
 have h1':p.funcs[(yw p.funcs s 0).toNat]?=some f:=h1
 rw[h2,zi6,h1'];rfl
def rsS (fm:List (Nm×Int)) (vs an:List (List UInt8)) (x:St) (_:Int) (w:Bool):Bool×Bool:=
 if x.kind=1 then (yz vs x.name,w)
 else if x.kind=2 then (yz an x.name,w)
 else if x.kind=6 then (zbN fm x.to&&yz vs x.name,w||(zbN fm x.to && !decide (lkV fm x.to=(x.args.length:Int))))
 else (true,w)
def zds (fm:List (Nm×Int)) (an:List (List UInt8)):List Fu→Bool→Int
 | [],w=>if w=true then 5 else 0
 | f::fs,w=>if zbM (fun x _=>zck (f.params++f.locals) an x) f=true∧(yT (rsS fm (f.params++f.locals) an) f.body 0 w).1=true then zds fm an fs (yT (rsS fm (f.params++f.locals) an) f.body 0 w).2 else 3
def zmU (p:Pr):Int:=zds (jE p.funcs []) (zB p) p.funcs false
def zis (p:Pr):Int:=if zdX p=false then 6 else if wfP p=false then 2 else if zg6 p=true then 4 else zmU p
mutual
theorem zgm (vs an:List (List UInt8)):∀ (x:Ex) (d:Int),zcd (fun x _=>zck vs an x) x d=zap vs an x
 | .mk k n s o ks,d=>by rw[zcd,zap,ze9 vs an ks,Bool.and_comm]
theorem ze9 (vs an:List (List UInt8)):∀ (l:List Ex) (d:Int),jM (fun x _=>zck vs an x) l d=jR vs an l
 | [],_=>rfl
 | x::l,d=>by rw[jM,jR,zgm vs an x,ze9 vs an l]
end
section
variable (c:Sc)
mutual
def zit:St→Bool
 | .mk _ _ _ _ a v args th el=>zap c.vars c.an a&&zap c.vars c.an v&&jR c.vars c.an args&&zcZ th&&zcZ el
def zcZ:List St→Bool
 | []=>true
 | x::l=>zit x&&zcZ l
end
mutual
def zgU:St→Bool
 | .mk k nm to n a v args th el=>zal c (.mk k nm to n a v args th el)&&zbp th&&zbp el
def zbp:List St→Bool
 | []=>true
 | x::l=>zgU x&&zbp l
end
mutual
theorem zuD:∀ (x:St) (d:Int),zbn (zg5 fun x _=>zck c.vars c.an x) x d ()=(zit c x,())
 | .mk k nm to n a v args th el,d=>by
   rw[zbn,zg5,zit]
   simp only[St.at_,St.value,St.args,zgm,ze9]
   cases h:zap c.vars c.an a&&zap c.vars c.an v&&jR c.vars c.an args
   ·simp
   ·simp only[zhn th,Bool.true_and]
    cases h2:zcZ c th
    ·simp
    ·simp only[zhn el,Bool.true_and]
theorem zhn:∀ (l:List St) (d:Int),yT (zg5 fun x _=>zck c.vars c.an x) l d ()=(zcZ c l,())
 | [],_=>rfl
 | x::l,d=>by
   rw[yT,zuD x,zcZ]
   cases h:zit c x
   ·simp
   ·simp only[zhn l,Bool.true_and]
end
mutual
theorem zuE:∀ x:St,zbz c false x=(zit c x&&zgU c x)
 | .mk k nm to n a v args th el=>by
   rw[zbz,zit,zgU,zho th,zho el,cond_false,zcf]
   simp only[St.at_,St.value,St.args]
   cases zap c.vars c.an a<;>cases zap c.vars c.an v<;>cases jR c.vars c.an args<;>cases zal c (.mk k nm to n a v args th el)<;>cases zcZ c th<;>cases zbp c th<;>cases zcZ c el<;>cases zbp c el<;>rfl
theorem zho:∀ l:List St,jr c false l=(zcZ c l&&zbp c l)
 | []=>rfl
 | x::l=>by
   rw[jr,zcZ,zbp,zuE x,zho l]
   cases zit c x<;>cases zgU c x<;>cases zcZ c l<;>cases zbp c l<;>rfl
end
end
theorem rsS_k {p:Pr} (hd:zM [] (jw p)=false) (c:Sc) (hc:c.p=p) (x:St) (d:Int) (w:Bool) :
 (zal c x=true→rsS (jE p.funcs []) c.vars c.an x d w=(true,w || !arK p x))∧(zal c x=false→(rsS (jE p.funcs []) c.vars c.an x d w).1=false):=by
 unfold rsS zal arK
 rw[hc]
 by_cases h1:x.kind=1
 ·have h6:¬ x.kind=6:=by omega
  simp only[h1,if_true,Int.reduceEq,decide_false,Bool.false_and,Bool.not_false,Bool.not_true,Bool.or_false]
  exact⟨fun h=>by rw[h],fun h=>h⟩
 ·by_cases h6:x.kind=6
  ·simp only[h6,Int.reduceEq,if_false,if_true,decide_true,Bool.true_and,Bool.not_not,zuC]
   cases h:decide (0≤yw p.funcs x.to 0)
   ·simp
   ·rw[lkV_fn hd (of_decide_eq_true h),Bool.and_true,Bool.true_and,Bool.true_and]
    refine⟨fun h=>?_,fun h=>h⟩
    rw[h]
    have e:decide ((zi6 p x.to:Int)=(x.args.length:Int))=decide ((x.args.length:Int)=(zi6 p x.to:Int)):=by
     by_cases q:(zi6 p x.to:Int)=(x.args.length:Int)
     ·rw[decide_eq_true q,decide_eq_true q.symm]
     ·rw[decide_eq_false q,decide_eq_false (fun e=>q e.symm)]
    rw[e]
  ·by_cases h2:x.kind=2
   ·simp only[h2,Int.reduceEq,if_false,if_true,decide_false,Bool.false_and,Bool.not_false,Bool.not_true,Bool.or_false]
    exact⟨fun h=>by rw[h],fun h=>h⟩
   ·simp only[h1,h2,h6,if_false,decide_false,Bool.false_and,Bool.not_false,Bool.not_true,Bool.or_false]
    exact⟨fun _=>by simp,fun h=>by simp at h⟩
section
variable {p:Pr} (hd:zM [] (jw p)=false) (c:Sc) (hc:c.p=p)
include hd hc
mutual
theorem zuF:∀ (x:St) (d:Int) (w:Bool),(zgU c x=true→zbn (rsS (jE p.funcs []) c.vars c.an) x d w=(true,w || !zbz c true x))∧(zgU c x=false→(zbn (rsS (jE p.funcs []) c.vars c.an) x d w).1=false)
 | .mk k nm to n a v args th el,d,w=>by
   have h0:=rsS_k hd c hc (.mk k nm to n a v args th el) d w
   rw[zbn,zgU,zbz,cond_true,hc]
   cases e0:zal c (.mk k nm to n a v args th el)
   ·have:=h0.2 e0
    generalize rsS _ _ _ _ _ _=r at this ⊢
    obtain⟨b,s⟩:=r
    simp only at this
    subst this
    simp
   ·rw[h0.1 e0]
    simp only[Bool.true_and]
    have h1:=zhp th (w64 (d+1)) (w || !arK p (.mk k nm to n a v args th el))
    cases e1:zbp c th
    ·have:=h1.2 e1
     generalize yT _ th _ _=r at this ⊢
     obtain⟨b,s⟩:=r
     simp only at this
     subst this
     simp
    ·rw[h1.1 e1]
     simp only[Bool.true_and]
     have h2:=zhp el (w64 (d+1)) ((w || !arK p (.mk k nm to n a v args th el)) || !jr c true th)
     cases e2:zbp c el
     ·exact⟨fun h=>by simp at h,fun _=>h2.2 e2⟩
     ·refine⟨fun _=>?_,fun h=>by simp at h⟩
      rw[h2.1 e2]
      congr 1
      cases w<;>cases arK p (.mk k nm to n a v args th el)<;>cases jr c true th<;>cases jr c true el<;>rfl
theorem zhp:∀ (l:List St) (d:Int) (w:Bool),(zbp c l=true→yT (rsS (jE p.funcs []) c.vars c.an) l d w=(true,w || !jr c true l))∧(zbp c l=false→(yT (rsS (jE p.funcs []) c.vars c.an) l d w).1=false)
 | [],d,w=>by
   rw[yT,zbp,jr]
   exact⟨fun _=>by simp,fun h=>by simp at h⟩
 | x::l,d,w=>by
   have h0:=zuF x d w
   rw[yT,zbp,jr]
   cases e0:zgU c x
   ·have:=h0.2 e0
    generalize zbn _ x _ _=r at this ⊢
    obtain⟨b,s⟩:=r
    simp only at this
    subst this
    simp
   ·rw[h0.1 e0]
    simp only[Bool.true_and]
    have h2:=zhp l d (w || !zbz c true x)
    cases e2:zbp c l
    ·exact⟨fun h=>by simp at h,fun _=>h2.2 e2⟩
    ·refine⟨fun _=>?_,fun h=>by simp at h⟩
     rw[h2.1 e2]
     congr 1
     cases w<;>cases zbz c true x<;>cases jr c true l<;>rfl
end
end
theorem zjq {p:Pr} (hd:zM [] (jw p)=false):∀ (l:List Fu) (w:Bool),zds (jE p.funcs []) (zB p) l w=if l.any (zcg p)=true then 3 else if (w||l.any (zcy p))=true then 5 else 0
 | [],w=>by simp[zds]
 | f::fs,w=>by
   have hk:=zhp hd (zas p f) rfl f.body 0 w
   have hv:(zas p f).vars=f.params++f.locals:=rfl
   have ha:(zas p f).an=zB p:=rfl
   rw[hv,ha]at hk
   have he:zbM (fun x _=>zck (f.params++f.locals) (zB p) x) f=(zap (f.params++f.locals) (zB p) f.value&&zcZ (zas p f) f.body):=by
    rw[zbM,zgm]
    have:=zhn (zas p f) f.body 0
    rw[hv,ha]at this
    rw[this]
   have hu:zcg p f=!(zbM (fun x _=>zck (f.params++f.locals) (zB p) x) f&&zbp (zas p f) f.body):=by
    rw[zcg,he,zho,hv,ha]
    cases zap (f.params++f.locals) (zB p) f.value<;>cases zcZ (zas p f) f.body<;>cases zbp (zas p f) f.body<;>rfl
   rw[zds,List.any_cons,List.any_cons,hu]
   cases h1:zbM (fun x _=>zck (f.params++f.locals) (zB p) x) f
   ·simp
   ·cases h2:zbp (zas p f) f.body
    ·simp[hk.2 h2]
    ·rw[hk.1 h2]
     simp only[and_self,if_true,Bool.and_self,Bool.not_true,Bool.false_or]
     rw[zjq hd fs]
     congr 2
     rw[zcy]
     cases w<;>simp
theorem zlw (p:Pr):zis p=yE p:=by
 unfold zis yE
 rw[zuA,znZ]
 cases h1:exB p
 ·simp only[Bool.not_false,Bool.true_eq_false,Bool.false_eq_true,if_false]
  cases h2:wfP p
  ·rfl
  ·simp only[Bool.true_eq_false,if_false]
   cases h3:zgl p
   ·simp only[Bool.false_eq_true,if_false]
    have hd:zM [] (jw p)=false:=by
     rw[← znZ,zg6,Bool.or_eq_false_iff,Bool.or_eq_false_iff]at h3
     exact h3.1.2
    rw[zmU,zjq hd]
    simp
   ·rfl
 ·rfl
namespace tyP4e
def tyF:=And.intro @tq3 (And.intro @tq9 (And.intro @zgb (And.intro @zgc (And.intro @zcj (And.intro @zcc (And.intro @za9 (And.intro @zau (And.intro @zfA (And.intro @zqv (And.intro @zld (And.intro @zp8 (@bsS1))))))))))))
end tyP4e
open tyP4e
noncomputable def code82:{ c:SC // slim 28 (Try.f82.body.getD .skip)=c }:=by
 refine⟨?_,?_⟩
 rotate_left
 ·simp only[Try.f82,Option.getD_some,slim,zZ,zS,z6,z7,Nat.blt,Nat.ble]
  rfl
noncomputable def code81:{ c:SC // slim 38 (Try.f81.body.getD .skip)=c }:=by
 refine⟨?_,?_⟩
 rotate_left
 ·simp only[Try.f81,Option.getD_some,slim,zZ,zS,z6,z7,Nat.blt,Nat.ble]
  rfl
noncomputable def code45:{ c:SC // slim 35 (Try.f45.body.getD .skip)=c }:=by
 refine⟨?_,?_⟩
 rotate_left
 ·simp only[Try.f45,Option.getD_some,slim,zZ,zS,z6,z7,Nat.blt,Nat.ble]
  rfl
def bEs (l:List (List UInt8)):List (AV×AV):=l.map fun s=>(.str s,.bool true)
def zlx (l:List (List UInt8)) (s:List UInt8):List (List UInt8):=if yz l s=true then l else l++[s]
theorem zd5 (s:List UInt8):∀ (l:List (List UInt8)) (i:Nat),(yz l s=false→jn .string (.str s) (bEs l) i=some none)∧(yz l s=true→∃ j,jn .string (.str s) (bEs l) i=some (some (i+j,.bool true))∧(bEs l).set j (.str s,.bool true)=bEs l)
 | [],i=>⟨fun _=>rfl,fun h=>by simp[yz]at h⟩
 | a::l,i=>by
   have hh:yz (a::l) s=(decide (s=a)||yz l s):=by rw[show a::l=[a]++l from rfl,yU,zaK]
   by_cases h:s=a
   ·subst h
    rw[hh,decide_eq_true rfl,Bool.true_or]
    refine⟨fun h=>by simp at h,fun _=>⟨0,?_,?_⟩⟩
    ·simp[bEs,jn,zg1]
    ·simp[bEs]
   ·have hf:jn .string (.str s) (bEs (a::l)) i=jn .string (.str s) (bEs l) (i+1):=by
     show jn .string (.str s) ((.str a,.bool true)::bEs l) i=_
     have:(s == a)=false:=by simpa using h
     simp[jn,zg1,this]
    rw[hh,decide_eq_false h,Bool.false_or,hf]
    obtain⟨g1,g2⟩:=zd5 s l (i+1)
    refine⟨g1,fun q=>?_⟩
    obtain⟨j,g3,g4⟩:=g2 q
    exact⟨j+1,by rw[g3,show i+1+j=i+(j+1) by omega],by show(AV.str a,AV.bool true)::(bEs l).set j _=_;rw[g4];rfl⟩
theorem zc0 {H:Hp}{r:Nat}{l:List (List UInt8)} (hg:H.get r=some (.map (bEs l))) (s:List UInt8):ji Try.prog H 140 (.map r) (.str s) false=some (.bool (yz l s)):=by
 obtain⟨l1,l2⟩:=zio (P:=Try.prog) (H:=H) (t:=140) (nm:=s) (z:=.bool false) Try.underlying140 (by kernel_rfl) (by kernel_rfl) hg
 cases h:yz l s with
 | false=>rw[l1 ((zd5 s l 0).1 h)]
 | true=>obtain⟨j,h1,h2⟩:=(zd5 s l 0).2 h;rw[l2 _ _ h1]
theorem zn1 {H:Hp}{r:Nat}{l:List (List UInt8)} (hg:H.get r=some (.map (bEs l))) (s:List UInt8):yZ Try.prog H 140 (.map r) (.str s) (.bool true)=some (H.set r (.map (bEs (zlx l s)))):=by
 obtain⟨l1,l2⟩:=ze7 (P:=Try.prog) (H:=H) (t:=140) (nm:=s) (x:=.bool true) Try.underlying140 (by kernel_rfl) hg
 cases h:yz l s with
 | false=>rw[l1 ((zd5 s l 0).1 h),zlx,h];simp[bEs]
 | true=>obtain⟨j,h1,h2⟩:=(zd5 s l 0).2 h;rw[l2 _ _ h1,Nat.zero_add,h2,zlx,if_pos h]
def rwE (x:List (List (List UInt8))):List AV:=[.lst (x.map fun l=>[je l])]
theorem zuG (x y:List (List (List UInt8))) (h:rwE x=rwE y):x=y:=by
 simp only[rwE,List.cons.injEq,AV.lst.injEq,and_true]at h
 exact zbB (fun a _ b e=>by simp only[List.cons.injEq,AV.lst.injEq,and_true]at e;exact zfC e) h
def rwOk (x:List (List (List UInt8))):Prop:=x.length < 2 ^ 60∧∀ l∈x,l.length < 2 ^ 60
theorem zuH (x:List (List (List UInt8))):zaH (.lst (x.map fun l=>[je l])):=.map fun l _=>.cons (zcW l) .nil
theorem zmV (ρ:Nat→Int) (x:List (List (List UInt8))) (hx:rwOk x):Con Try.prog ρ 82 (rwE x) (.bool (zM [] x.flatten)):=jX fit (pls:=pls) (l:=[]) trivial (.cons (zuH x) .nil) (.bool _) (by
 have hw:=zab 82
 obtain⟨hx1,hx2⟩:=hx
 rw[rwE]
 refine zj (M:=28) (rs:=[.tmp 2]) (hw.call _) hw.ice hw.froz Try.func82 rfl rfl code82.2 rfl ?_;dsimp only[code82,zO,Nat.reduceAdd]
 repeat' (first
  | (apply Rx.nl ?_;clear hK K)|apply Rx.o ?_|apply Rx.on ?_|(apply Rx.cd (fun hb hbp=>?_) (fun hb hbp=>?_)<;>try (cases hb;done))|apply Wp.seq ?_|(apply zd fun K hK=>?_)|apply Wp.block ?_|apply zh ?_|apply Rx.rt ?_|apply zk ?_)
 refine yd [3,9,10] [] 11 x.length (fun i E H=>∃ seen,H.get 0=some (.map (bEs seen))∧zM [] x.flatten=zM seen (x.drop i).flatten) eE ⟨[],by rw[za,if_pos (by rfl)];rfl,rfl⟩ ?_
 rintro i E H2 hi hcE hrH hnH hsI ⟨seen,hm,hJ⟩
 (try simp only[zi,zl,and_true,sB,sO,Nat.reduceBEq,Nat.reduceAdd,Nat.reduceLeDiff,tyF, *]at hcE)
 (try simp only[zi,zl,and_true,sB,sO,Nat.reduceBEq,Nat.reduceAdd,Nat.reduceLeDiff,tyF, *]at hrH)
 (try simp only[zb,ze,zH,Nat.zero_add,Nat.reduceAdd]at hnH)
 repeat' (first
  | (apply Rx.nl ?_;clear hK K)|apply Rx.o ?_|apply Rx.on ?_|(apply Rx.cd (fun hb hbp=>?_) (fun hb hbp=>?_)<;>try (cases hb;done))|apply Wp.seq ?_|(apply zd fun K hK=>?_)|apply Wp.block ?_|apply zh ?_|apply Rx.rt ?_|apply zk ?_)
 ·have hlt:i < x.length:=by simpa using hb
  have hgx:x[i]?=some x[i]:=List.getElem?_eq_getElem hlt
  have hsm:=hx2 _ (List.getElem_mem hlt)
  have hdr:(x.drop i).flatten=x[i]++(x.drop (i+1)).flatten:=by rw[List.drop_eq_getElem_cons hlt,List.flatten_cons]
  rw[hdr]at hJ
  clear hdr
  generalize x[i]=row at *
  repeat' (first
   | (apply Rx.nl ?_;clear hK K)|apply Rx.o ?_|apply Rx.on ?_|(apply Rx.cd (fun hb hbp=>?_) (fun hb hbp=>?_)<;>try (cases hb;done))|apply Wp.seq ?_|(apply zd fun K hK=>?_)|apply Wp.block ?_|apply zh ?_|apply Rx.rt ?_|apply zk ?_)
  refine yd [3,9,10,11,15,16] [] 17 row.length (fun j E H=>∃ seen,H.get 0=some (.map (bEs seen))∧zM [] x.flatten=zM seen (row.drop j++(x.drop (i+1)).flatten)) eE ⟨seen,hm,hJ⟩ ?_
  clear hm hJ seen
  rintro j E3 H3 hj hcE hrH hnH hsI ⟨seen,hm,hJ⟩
  (try simp only[zi,zl,and_true,sB,sO,Nat.reduceBEq,Nat.reduceAdd,Nat.reduceLeDiff,tyF, *]at hcE)
  (try simp only[zi,zl,and_true,sB,sO,Nat.reduceBEq,Nat.reduceAdd,Nat.reduceLeDiff,tyF, *]at hrH)
  (try simp only[zb,ze,zH,Nat.zero_add,Nat.reduceAdd]at hnH)
  repeat' (first
   | (apply Rx.nl ?_;clear hK K)|apply Rx.o ?_|apply Rx.on ?_|(apply Rx.cd (fun hb hbp=>?_) (fun hb hbp=>?_)<;>try (cases hb;done))|apply Wp.seq ?_|(apply zd fun K hK=>?_)|apply Wp.block ?_|apply zh ?_|apply Rx.rt ?_|apply zk ?_)
  ·have hlt2:j < row.length:=by simpa using hb
   have hgx2:row[j]?=some row[j]:=List.getElem?_eq_getElem hlt2
   have hdr:zM seen (row.drop j++(x.drop (i+1)).flatten)=(yz seen row[j]||zM (seen++[row[j]]) (row.drop (j+1)++(x.drop (i+1)).flatten)):=by rw[List.drop_eq_getElem_cons hlt2];rfl
   have hlk:=zc0 hm row[j]
   have hup:=zn1 hm row[j]
   repeat' (first
    | (apply Rx.nl ?_;clear hK K)|apply Rx.o ?_|apply Rx.on ?_|(apply Rx.cd (fun hb hbp=>?_) (fun hb hbp=>?_)<;>try (cases hb;done))|apply Wp.seq ?_|(apply zd fun K hK=>?_)|apply Wp.block ?_|apply zh ?_|apply Rx.rt ?_|apply zk ?_)
   ·all_goals (refine⟨eI,_,eR,?_⟩;try simp only[zp])
    rw[hJ,hdr];(try simp only[Bool.not_eq_true',Bool.not_eq_false']at *);simp only[*,decide_true,decide_false,Bool.false_or,Bool.or_false,Bool.true_or,Bool.or_true,Bool.false_and,Bool.and_false,Bool.true_and,Bool.and_true,Bool.not_true,Bool.not_false,if_true,if_false,Int.reduceEq]
   ·refine⟨by omega,eL,eL,eN,(by simp only[sB,Nat.reduceBEq, *];exact zT (n:=row.length) (by omega) (by omega)),?_⟩
    refine⟨zlx seen row[j],by rw[Hp.get_set,if_pos (by rfl)],?_⟩
    rw[hJ,hdr,zlx];(try simp only[Bool.not_eq_true',Bool.not_eq_false']at *);simp only[*,decide_true,decide_false,Bool.false_or,Bool.or_false,Bool.true_or,Bool.or_true,Bool.false_and,Bool.and_false,Bool.true_and,Bool.and_true,Bool.not_true,Bool.not_false,if_true,if_false,Int.reduceEq];rfl
  ·have hje:j=row.length:=by simp at hb;omega
   repeat' (first
    | (apply Rx.nl ?_;clear hK K)|apply Rx.o ?_|apply Rx.on ?_|(apply Rx.cd (fun hb hbp=>?_) (fun hb hbp=>?_)<;>try (cases hb;done))|apply Wp.seq ?_|(apply zd fun K hK=>?_)|apply Wp.block ?_|apply zh ?_|apply Rx.rt ?_|apply zk ?_)
   refine⟨by omega,eL,eL,eN,(by simp only[sB,Nat.reduceBEq, *];exact zT (n:=x.length) (by omega) (by omega)),?_⟩
   exact⟨seen,hm,by rw[hJ,hje,List.drop_length,List.nil_append]⟩
 ·all_goals (refine⟨eI,_,eR,?_⟩;try simp only[zp])
  have hie:i=x.length:=by simp at hb;omega
  rw[hJ,hie,List.drop_length];rfl)
def nlS (l:List (List UInt8)):AV:=if l=[]then .nilS else je l
def zmW (H:Hp) (v:AV) (l:List (List UInt8)) (lo:Nat):Prop:=(v=.nilS∧l=[])∨(l≠[]∧zj6 H v l lo)
theorem zmW.n {H:Hp}{v:AV}{l:List (List UInt8)}{lo:Nat} (h:zmW H v l lo):zli H v l lo:=h.imp id fun h=>h.2
theorem zmW.keep {H H':Hp}{v:AV}{l:List (List UInt8)}{lo:Nat} (h:zmW H v l lo) (hn:H.next≤H'.next) (hg:∀ k,yq v k→H'.get k=H.get k):zmW H' v l lo:=h.imp id fun h=>⟨h.1,h.2.keep hn hg⟩
theorem zjr (H:Hp) (n:Nat):∀ l:List (List UInt8),iceL (iceV H (n+1)) (l.map .str)=some (l.map .str)
 | []=>rfl
 | a::l=>by
   have:=zjr H n l
   have e:iceV H (n+1) (.str a)=some (.str a):=rfl
   simp only[List.map_cons,iceL,e,this]
theorem zmW.iceV {H:Hp}{v:AV}{l:List (List UInt8)}{lo:Nat} (h:zmW H v l lo) (n:Nat):iceV H (n+2) v=some (nlS l):=by
 rcases h with ⟨rfl,rfl⟩|⟨h0,r,imm,rfl,h2,_⟩
 ·rfl
 ·have e:Ab.iceV H (n+2) (.sl r 0 l.length 1)=match H.get r with
   | some (.cells cs _ _)=>match iceL (Ab.iceV H (n+1)) ((cs.drop 0).take (l.length * 1))with
     | some l'=>if l'.length=l.length * 1 then some (.lst (za1 1 l.length l'))else none
     | none=>none
   | _=>none:=rfl
  rw[e,h2]
  simp only[List.drop_zero,Nat.mul_one]
  rw[List.take_of_length_le (by simp),zjr]
  simp only[List.length_map,if_true,zo0]
  rw[nlS,if_neg h0]
theorem zqO (n:Nat) (l:List (List UInt8)):wkN (n+2) (nlS l)=je l:=by
 unfold nlS
 split
 ·rename_i h;subst h;rfl
 ·show AV.lst ((l.map fun s=>[AV.str s]).map fun row=>row.map (wkN (n+1)))=_
  rw[List.map_map];rfl
set_option maxRecDepth 100000 in
theorem zka (ρ:Nat→Int) (p:Pr) (hz:p.sz < 2 ^ 36):Con Try.prog ρ 81 (prE p) (.tup [je (zB p),je (jw p)]):=znP (n:=3) (zdW (r:=.tup [nlS (zB p),nlS (jw p)]) (m:=3) (cfg:=zK pls []) fit (zhY ρ) (fun f args r h=>by simp[zK,yQ]at h) (.cons (.agg p.pure) .nil) (by
 have hw:=zab 81
 have hkeep:(zK pls []).keep 81=false:=rfl
 have hpz:p.sz=1+zak p.arrays+za2 p.funcs:=rfl
 have hla:=zaU p.arrays
 have hlf:=zbx p.funcs
 rw[prE]
 refine zj (M:=38) (rs:=[.tmp 2,.tmp 3]) (hw.call _) hw.ice hw.froz Try.func81 rfl rfl code81.2 rfl ?_;dsimp only[code81,zO,Nat.reduceAdd]
 repeat' (first
  | (apply Rx.nl ?_;clear hK K)|apply Rx.o ?_|apply Rx.on ?_|(apply Rx.cd (fun hb hbp=>?_) (fun hb hbp=>?_)<;>try (cases hb;done))|apply Wp.seq ?_|(apply zd fun K hK=>?_)|apply Wp.block ?_|apply zh ?_|apply Rx.rt ?_|apply zk ?_)
 refine yd [1,2,3,5,11,12] [0] 13 p.arrays.length (fun i E H=>∃ v,E.at 4=v∧zmW H v ((zB p).take i) 1) eE ⟨.nilS,eE,.inl ⟨rfl,rfl⟩⟩ ?_
 rintro i E H2 hi hcE hrH hnH hsI ⟨v,k4,hv⟩
 (try simp only[zi,zl,and_true,sB,sO,Nat.reduceBEq,Nat.reduceAdd,Nat.reduceLeDiff,tyF, *]at hcE)
 (try simp only[zi,zl,and_true,sB,sO,Nat.reduceBEq,Nat.reduceAdd,Nat.reduceLeDiff,tyF, *]at hrH)
 (try simp only[zb,ze,zH,Nat.zero_add,Nat.reduceAdd]at hnH)
 have hB0:(0 == H2.next)=false:=zP (by omega)
 have hC0:(H2.next == 0)=false:=zP (by omega)
 repeat' (first
  | (apply Rx.nl ?_;clear hK K)|apply Rx.o ?_|apply Rx.on ?_|(apply Rx.cd (fun hb hbp=>?_) (fun hb hbp=>?_)<;>try (cases hb;done))|apply Wp.seq ?_|(apply zd fun K hK=>?_)|apply Wp.block ?_|apply zh ?_|apply Rx.rt ?_|apply zk ?_)
 ·have hlt:i < p.arrays.length:=by simpa using hb
  have hgx:p.arrays[i]?=some p.arrays[i]:=List.getElem?_eq_getElem hlt
  have htk:(zB p).take (i+1)=(zB p).take i++[p.arrays[i].name]:=by rw[zB,List.take_add_one,List.getElem?_map,hgx];rfl
  repeat' (first
   | (apply Rx.nl ?_;clear hK K)|apply Rx.o ?_|apply Rx.on ?_|(apply Rx.cd (fun hb hbp=>?_) (fun hb hbp=>?_)<;>try (cases hb;done))|apply Wp.seq ?_|(apply zd fun K hK=>?_)|apply Wp.block ?_|apply zh ?_|apply Rx.rt ?_|apply zk ?_)
  generalize hHb:Hp.alloc (Hp.set _ _ _) _=Hb
  have nb:Hb.next=H2.next+2:=by rw[← hHb];rfl
  have oldb:∀ k,k < H2.next→Hb.get k=H2.get k:=fun k hk=>by rw[← hHb,za,if_neg (by simp only[ze,zb];omega),Hp.get_set,if_neg (by omega),za,if_neg (by omega)]
  have gb:Hb.get (H2.next+1)=some (.cells [.str p.arrays[i].name] 0 true):=by rw[← hHb,za,if_pos (by rfl)]
  clear hHb
  have hvb:zli Hb v ((zB p).take i) 1:=hv.n.keep (by omega) fun k hk=>oldb k (hv.n.lt hk).2
  obtain⟨v5,H5,a5,s5,n5,f5,o5⟩:=znO (r:=H2.next+1) (imm:=0) p.arrays[i].name hvb (by omega) gb (by simp;omega)
  have n5':Hb.next≤H5.next:=by omega
  clear n5
  have g50:H5.get 0=some (.cells p.cells 0 true):=by rw[f5 0 (by omega),oldb 0 (by omega)];exact hrH
  refine WpL.append eV eV (by rw[hkeep];exact a5) ?_
  repeat' (first
   | (apply Rx.nl ?_;clear hK K)|apply Rx.o ?_|apply Rx.on ?_|(apply Rx.cd (fun hb hbp=>?_) (fun hb hbp=>?_)<;>try (cases hb;done))|apply Wp.seq ?_|(apply zd fun K hK=>?_)|apply Wp.block ?_|apply zh ?_|apply Rx.rt ?_|apply zk ?_)
  refine⟨by omega,eL,eL,eN,(by simp only[sB,Nat.reduceBEq, *];exact zT (n:=p.arrays.length) (by omega) (by omega)),?_⟩
  exact⟨v5,eE,.inr ⟨by rw[htk];simp,by rw[htk];exact s5⟩⟩
 ·have hie:i=p.arrays.length:=by simp at hb;omega
  have hte:(zB p).take i=zB p:=List.take_of_length_le (by simp[zB];omega)
  rw[hte]at hv
  clear hte hie hsI hi
  repeat' (first
   | (apply Rx.nl ?_;clear hK K)|apply Rx.o ?_|apply Rx.on ?_|(apply Rx.cd (fun hb hbp=>?_) (fun hb hbp=>?_)<;>try (cases hb;done))|apply Wp.seq ?_|(apply zd fun K hK=>?_)|apply Wp.block ?_|apply zh ?_|apply Rx.rt ?_|apply zk ?_)
  have c3:∀ k,yq v k→k < H2.next:=fun k hk=>(hv.n.lt hk).2
  refine yd [2,3,4,24,25] [0] 26 p.funcs.length (fun i E H=>∃ u,E.at 5=u∧zmW H u ((jw p).take i) H2.next∧zmW H v (zB p) 1) eE ⟨.nilS,eE,.inl ⟨rfl,rfl⟩,hv⟩ ?_
  rintro i E H3 hi hcE hrH hnH hsI ⟨u,k5,hu,hv3⟩
  (try simp only[zi,zl,and_true,sB,sO,Nat.reduceBEq,Nat.reduceAdd,Nat.reduceLeDiff,tyF, *]at hcE)
  (try simp only[zi,zl,and_true,sB,sO,Nat.reduceBEq,Nat.reduceAdd,Nat.reduceLeDiff,tyF, *]at hrH)
  (try simp only[zb,ze,zH,Nat.zero_add,Nat.reduceAdd]at hnH)
  have hB0:(0 == H3.next)=false:=zP (by omega)
  have hC0:(H3.next == 0)=false:=zP (by omega)
  repeat' (first
   | (apply Rx.nl ?_;clear hK K)|apply Rx.o ?_|apply Rx.on ?_|(apply Rx.cd (fun hb hbp=>?_) (fun hb hbp=>?_)<;>try (cases hb;done))|apply Wp.seq ?_|(apply zd fun K hK=>?_)|apply Wp.block ?_|apply zh ?_|apply Rx.rt ?_|apply zk ?_)
  ·have hlt:i < p.funcs.length:=by simpa using hb
   have hgx:p.funcs[i]?=some p.funcs[i]:=List.getElem?_eq_getElem hlt
   have htk:(jw p).take (i+1)=(jw p).take i++[p.funcs[i].name]:=by rw[jw,List.take_add_one,List.getElem?_map,hgx];rfl
   repeat' (first
    | (apply Rx.nl ?_;clear hK K)|apply Rx.o ?_|apply Rx.on ?_|(apply Rx.cd (fun hb hbp=>?_) (fun hb hbp=>?_)<;>try (cases hb;done))|apply Wp.seq ?_|(apply zd fun K hK=>?_)|apply Wp.block ?_|apply zh ?_|apply Rx.rt ?_|apply zk ?_)
   generalize hHb:Hp.alloc (Hp.set _ _ _) _=Hb
   have nb:Hb.next=H3.next+2:=by rw[← hHb];rfl
   have oldb:∀ k,k < H3.next→Hb.get k=H3.get k:=fun k hk=>by rw[← hHb,za,if_neg (by simp only[ze,zb];omega),Hp.get_set,if_neg (by omega),za,if_neg (by omega)]
   have gb:Hb.get (H3.next+1)=some (.cells [.str p.funcs[i].name] 0 true):=by rw[← hHb,za,if_pos (by rfl)]
   clear hHb
   have hub:zli Hb u ((jw p).take i) H2.next:=hu.n.keep (by omega) fun k hk=>oldb k (hu.n.lt hk).2
   obtain⟨v5,H5,a5,s5,n5,f5,o5⟩:=znO (r:=H3.next+1) (imm:=0) p.funcs[i].name hub (by omega) gb (by simp;omega)
   have n5':Hb.next≤H5.next:=by omega
   clear n5
   have g50:H5.get 0=some (.cells p.cells 0 true):=by rw[f5 0 (by omega),oldb 0 (by omega)];exact hrH
   refine WpL.append eV eV (by rw[hkeep];exact a5) ?_
   repeat' (first
    | (apply Rx.nl ?_;clear hK K)|apply Rx.o ?_|apply Rx.on ?_|(apply Rx.cd (fun hb hbp=>?_) (fun hb hbp=>?_)<;>try (cases hb;done))|apply Wp.seq ?_|(apply zd fun K hK=>?_)|apply Wp.block ?_|apply zh ?_|apply Rx.rt ?_|apply zk ?_)
   refine⟨by omega,eL,eL,eN,(by simp only[sB,Nat.reduceBEq, *];exact zT (n:=p.funcs.length) (by omega) (by omega)),?_⟩
   exact⟨v5,eE,.inr ⟨by rw[htk];simp,by rw[htk];exact s5⟩,hv3.keep (by omega) fun k hk=>by rw[f5 k (c3 k hk),oldb k (by have:=c3 k hk;omega)]⟩
  ·have hie:i=p.funcs.length:=by simp at hb;omega
   have hte:(jw p).take i=jw p:=List.take_of_length_le (by simp[jw];omega)
   rw[hte]at hu
   repeat' (first
    | (apply Rx.nl ?_;clear hK K)|apply Rx.o ?_|apply Rx.on ?_|(apply Rx.cd (fun hb hbp=>?_) (fun hb hbp=>?_)<;>try (cases hb;done))|apply Wp.seq ?_|(apply zd fun K hK=>?_)|apply Wp.block ?_|apply zh ?_|apply Rx.rt ?_|apply zk ?_)
   all_goals (refine⟨eI,_,eR,?_⟩;try simp only[zp])
   have e1:=hv3.iceV (n:=0)
   have e2:=hu.iceV (n:=0)
   show(match iceL (iceV H3 2) [v,u]with|some ds=>some (AV.tup ds)|none=>none)=_
   simp only[iceL,e1,e2])) (by
 show AV.tup [wkN 2 (nlS (zB p)),wkN 2 (nlS (jw p))]=_
 rw[zqO,zqO])
noncomputable def zmX:En:=⟨81,false,spP (fun p=>p.sz < 2 ^ 36) prE fun p=>.tup [je (zB p),je (jw p)]⟩
theorem zjs (ρ:Nat→Int):zbI Try.prog ρ zmX:=jL fun p hp=>zka ρ p hp
noncomputable def zqP:En:=⟨82,true,spP rwOk rwE fun x=>.bool (zM [] x.flatten)⟩
theorem zo5 (ρ:Nat→Int):zbI Try.prog ρ zqP:=jL fun x hx=>zmV ρ x hx
theorem flat1 (x:List (List (List UInt8))):(x.map fun l=>[je l]).flatten=x.map je:=by
 induction x with
 | nil=>rfl
 | cons a l ih=>simp[ih]
theorem zqQ {H:Hp}{r imm:Nat}{x:List (List (List UInt8))} (hg:H.get r=some (.cells (x.map je) imm true)) (hr:r < H.next) (hi:imm≤x.length) :
 ∃ H',zb2 (zc8 100) [.sl r 0 x.length 1] H=some (rwE x,H')∧Icy (fun k=>k=r) H H':=by
 refine Ic.iceL (S:=fun k=>k=r) (n:=100) (m:=rwE x) ⟨?_,trivial⟩
 have h:=Ic.rows (S:=fun k=>k=r) (n:=99) (H:=H) (r:=r) (z:=1) (imm:=imm) (tip:=true) (a:=x.map fun l=>[je l]) (b:=x.map fun l=>[je l]) rfl hr (by rw[flat1];exact hg) (by rw[flat1];simpa using hi) (by simp) (zbf.refl fun a ha=>zbf.refl fun c hc=>by
  obtain⟨l,_,rfl⟩:=List.mem_map.1 ha
  rw[List.mem_singleton]at hc
  subst hc
  exact Ic.flat ⟨zcW l,trivial⟩)
 rw[List.length_map]at h
 exact h
theorem zkb {l:List En} (hl:∀ ar,yQ l 82 ar=zqP.sp ar) (hi:zev l 82=true) {H:Hp}{r imm:Nat}{x:List (List (List UInt8))} (hg:H.get r=some (.cells (x.map je) imm true)) (hr:r < H.next) (him:imm≤x.length) (hx:rwOk x) :
 zr Try.prog (zK pls l) 82 [.sl r 0 x.length 1] H fun v H'=>v=.bool (zM [] x.flatten)∧Icy (fun k=>k=r) H H':=by
 obtain⟨H',h1,h2⟩:=zqQ hg hr him
 refine zr.mono ?_ (zmF (enc:=rwE) (out:=fun x=>.bool (zM [] x.flatten)) zuG (x:=x) hl hi hx (H':=H') (fun y _ e=>by simp[rwE]at e) h1)
 rintro v _ ⟨rfl,rfl⟩
 exact⟨rfl,h2⟩
theorem bsR1 (H:Hp) (a:List (List AV)):zI Try.prog H 167 1 [(0,.lst a)]=some (.sl H.next 0 1 1,H.alloc (.cells [.lst a] 0 true)):=by kernel_rfl
theorem bsR2 (H:Hp) (a b:List (List AV)):zI Try.prog H 167 2 [(0,.lst a),(1,.lst b)]=some (.sl H.next 0 2 1,H.alloc (.cells [.lst a,.lst b] 0 true)):=by kernel_rfl
theorem bsR3 (H:Hp) (a b c:List (List AV)):zI Try.prog H 167 3 [(0,.lst a),(1,.lst b),(2,.lst c)]=some (.sl H.next 0 3 1,H.alloc (.cells [.lst a,.lst b,.lst c] 0 true)):=by kernel_rfl
noncomputable def zmY:List En:=[zmX,zqP]
theorem zo6 (ρ:Nat→Int):zdC Try.prog ρ zmY:=⟨zjs ρ,zo5 ρ,trivial⟩
set_option maxRecDepth 100000 in
theorem ziu (ρ:Nat→Int) (p:Pr) (hz:p.sz < 2 ^ 36):Con Try.prog ρ 45 (prE p) (.bool (zg6 p)):=jX fit (pls:=pls) (zo6 ρ) (.cons (.agg p.pure) .nil) (.bool _) (by
 have hw:Plain (zK pls zmY) 45:=yJ (fun _=>rfl) rfl
 have kd:∀ H,zr Try.prog (zK pls zmY) 81 [.agg p.cells] H fun v H'=>v=.tup [je (zB p),je (jw p)]∧H'=H:=fun H=>yr (enc:=prE) (out:=fun p=>.tup [je (zB p),je (jw p)]) zcx (x:=p) rfl hz
 have hpz:p.sz=1+zak p.arrays+za2 p.funcs:=rfl
 have hla:=zaU p.arrays
 have hlf:=zbx p.funcs
 have hal:(zB p).length=p.arrays.length:=by simp[zB]
 have hfl:(jw p).length=p.funcs.length:=by simp[jw]
 have hx0:∀ a b,Ab.extract (.tup [a,b]) 0=some a:=fun _ _=>rfl
 have hx1:∀ a b,Ab.extract (.tup [a,b]) 1=some b:=fun _ _=>rfl
 rw[prE]
 refine zj (M:=35) (rs:=[.tmp 2]) (hw.call _) hw.ice hw.froz Try.func45 rfl rfl code45.2 rfl ?_;dsimp only[code45,zO,Nat.reduceAdd]
 have gh0:=@bsR1
 repeat' (first
  | (apply Rx.nl ?_;clear hK K)|apply Rx.o ?_|apply Rx.on ?_|(apply Rx.call ?_;first|refine zaF (kd _) ?_)|(apply Rx.gd (fun hg hgp=>?_) (fun hg hgp=>?_)<;>try (cases hg;done))|(apply Rx.cd (fun hb hbp=>?_) (fun hb hbp=>?_)<;>try (cases hb;done))|apply Wp.seq ?_|(apply zd fun K hK=>?_)|apply Wp.block ?_|apply zh ?_|apply Rx.rt ?_|apply zk ?_)
 refine WpL.call rfl eVk eAk ?_;simp only[List.cons_append,List.nil_append,List.append_nil]
 refine zr.mono ?_ (zkb (x:=[zB p]) (imm:=0) (fun _=>rfl) rfl (by rw[za,if_pos (by rfl)];rfl) (Nat.lt_succ_self _) (by simp) ⟨by simp,by simp;omega⟩)
 rintro v H2 ⟨rfl,hy⟩
 have n2:=hy.next
 simp only[zb,zH]at n2
 have g20:H2.get 0=some (.cells p.cells 0 true):=by rw[hy.out 0 (by simp),za,if_neg (by simp),za,if_pos (by rfl)]
 have n2':2≤H2.next:=by omega
 clear hy n2
 rw[show([zB p]:List (List (List UInt8))).flatten=zB p by simp]
 dsimp only[zA]
 have gh0:=@bsR1
 repeat' (first
  | (apply Rx.nl ?_;clear hK K)|apply Rx.o ?_|apply Rx.on ?_|(apply Rx.gd (fun hg hgp=>?_) (fun hg hgp=>?_)<;>try (cases hg;done))|(apply Rx.cd (fun hb hbp=>?_) (fun hb hbp=>?_)<;>try (cases hb;done))|apply Wp.seq ?_|(apply zd fun K hK=>?_)|apply Wp.block ?_|apply zh ?_|apply Rx.rt ?_|apply zk ?_)
 ·refine WpL.call rfl eVk eAk ?_;simp only[List.cons_append,List.nil_append,List.append_nil]
  refine zr.mono ?_ (zkb (x:=[jw p]) (imm:=0) (fun _=>rfl) rfl (by rw[za,if_pos (by rfl)];rfl) (Nat.lt_succ_self _) (by simp) ⟨by simp,by simp;omega⟩)
  rintro v H3 ⟨rfl,hy⟩
  have n3:=hy.next
  simp only[zb]at n3
  have g30:H3.get 0=some (.cells p.cells 0 true):=by rw[hy.out 0 (by omega),za,if_neg (by omega)];exact g20
  have n3':2≤H3.next:=by omega
  clear hy n3
  rw[show([jw p]:List (List (List UInt8))).flatten=jw p by simp]
  dsimp only[zA]
  repeat' (first
   | (apply Rx.nl ?_;clear hK K)|apply Rx.o ?_|apply Rx.on ?_|(apply Rx.gd (fun hg hgp=>?_) (fun hg hgp=>?_)<;>try (cases hg;done))|(apply Rx.cd (fun hb hbp=>?_) (fun hb hbp=>?_)<;>try (cases hb;done))|apply Wp.seq ?_|(apply zd fun K hK=>?_)|apply Wp.block ?_|apply zh ?_|apply Rx.rt ?_|apply zk ?_)
  ·all_goals (refine⟨eI,_,eR,?_⟩;try simp only[zp])
   rw[zg6];(try simp only[Bool.not_eq_true',Bool.not_eq_false']at *);simp only[*,decide_true,decide_false,Bool.false_or,Bool.or_false,Bool.true_or,Bool.or_true,Bool.false_and,Bool.and_false,Bool.true_and,Bool.and_true,Bool.not_true,Bool.not_false,if_true,if_false,Int.reduceEq]
  ·refine yd [3,21,22] [0] 23 p.funcs.length (fun i E H=>(p.funcs.any fun f=>zM [] (zB p++(f.params++f.locals)))=((p.funcs.drop i).any fun f=>zM [] (zB p++(f.params++f.locals)))) eE (by simp) ?_
   rintro i E H4 hi hcE hrH hnH hsI hJ
   (try simp only[zi,zl,and_true,sB,sO,Nat.reduceBEq,Nat.reduceAdd,Nat.reduceLeDiff,tyF, *]at hcE)
   (try simp only[zi,zl,and_true,sB,sO,Nat.reduceBEq,Nat.reduceAdd,Nat.reduceLeDiff,tyF, *]at hrH)
   (try simp only[zb,ze,zH,Nat.zero_add,Nat.reduceAdd]at hnH)
   have hB0:(0 == H4.next)=false:=zP (by omega)
   have hC0:(H4.next == 0)=false:=zP (by omega)
   repeat' (first
    | (apply Rx.nl ?_;clear hK K)|apply Rx.o ?_|apply Rx.on ?_|(apply Rx.gd (fun hg hgp=>?_) (fun hg hgp=>?_)<;>try (cases hg;done))|(apply Rx.cd (fun hb hbp=>?_) (fun hb hbp=>?_)<;>try (cases hb;done))|apply Wp.seq ?_|(apply zd fun K hK=>?_)|apply Wp.block ?_|apply zh ?_|apply Rx.rt ?_|apply zk ?_)
   ·have hlt:i < p.funcs.length:=by simpa using hb
    have hgx:p.funcs[i]?=some p.funcs[i]:=List.getElem?_eq_getElem hlt
    have hsm:=zby (List.getElem_mem hlt)
    have hsz:p.funcs[i].sz=1+p.funcs[i].name.length+jd p.funcs[i].params+jd p.funcs[i].locals+zu p.funcs[i].body+p.funcs[i].value.sz:=rfl
    have hpl:=zar p.funcs[i].params
    have hll:=zar p.funcs[i].locals
    have hdr:((p.funcs.drop i).any fun f=>zM [] (zB p++(f.params++f.locals)))=(zM [] (zB p++(p.funcs[i].params++p.funcs[i].locals))||((p.funcs.drop (i+1)).any fun f=>zM [] (zB p++(f.params++f.locals)))):=by rw[List.drop_eq_getElem_cons hlt,List.any_cons]
    have gh0:=@bsR3
    repeat' (first
     | (apply Rx.nl ?_;clear hK K)|apply Rx.o ?_|apply Rx.on ?_|(apply Rx.gd (fun hg hgp=>?_) (fun hg hgp=>?_)<;>try (cases hg;done))|(apply Rx.cd (fun hb hbp=>?_) (fun hb hbp=>?_)<;>try (cases hb;done))|apply Wp.seq ?_|(apply zd fun K hK=>?_)|apply Wp.block ?_|apply zh ?_|apply Rx.rt ?_|apply zk ?_)
    refine WpL.call rfl eVk eAk ?_;simp only[List.cons_append,List.nil_append,List.append_nil]
    refine zr.mono ?_ (zkb (x:=[zB p,p.funcs[i].params,p.funcs[i].locals]) (imm:=0) (fun _=>rfl) rfl (by rw[za,if_pos (by rfl)];rfl) (Nat.lt_succ_self _) (by simp) ⟨by simp,by simp;omega⟩)
    rintro v H5 ⟨rfl,hy⟩
    have n5:=hy.next
    simp only[zb,ze]at n5
    have g50:H5.get 0=some (.cells p.cells 0 true):=by rw[hy.out 0 (by intro e;change (0:Nat)=_ at e;(try simp only[ze,zb]at e);omega),za,if_neg (by(try simp only[ze,zb]);omega),Hp.get_set,if_neg (by omega),za,if_neg (by omega)];exact hrH
    have n5':H4.next≤H5.next:=by omega
    clear hy n5
    rw[show([zB p,p.funcs[i].params,p.funcs[i].locals]:List (List (List UInt8))).flatten=zB p++(p.funcs[i].params++p.funcs[i].locals) by simp]
    dsimp only[zA]
    repeat' (first
     | (apply Rx.nl ?_;clear hK K)|apply Rx.o ?_|apply Rx.on ?_|(apply Rx.gd (fun hg hgp=>?_) (fun hg hgp=>?_)<;>try (cases hg;done))|(apply Rx.cd (fun hb hbp=>?_) (fun hb hbp=>?_)<;>try (cases hb;done))|apply Wp.seq ?_|(apply zd fun K hK=>?_)|apply Wp.block ?_|apply zh ?_|apply Rx.rt ?_|apply zk ?_)
    ·all_goals (refine⟨eI,_,eR,?_⟩;try simp only[zp])
     rw[zg6,hJ,hdr];(try simp only[Bool.not_eq_true',Bool.not_eq_false']at *);simp only[*,decide_true,decide_false,Bool.false_or,Bool.or_false,Bool.true_or,Bool.or_true,Bool.false_and,Bool.and_false,Bool.true_and,Bool.and_true,Bool.not_true,Bool.not_false,if_true,if_false,Int.reduceEq]
    ·refine⟨by omega,eL,eL,eN,(by simp only[sB,Nat.reduceBEq, *];exact zT (n:=p.funcs.length) (by omega) (by omega)),?_⟩
     rw[hJ,hdr];(try simp only[Bool.not_eq_true',Bool.not_eq_false']at *);simp only[*,decide_true,decide_false,Bool.false_or,Bool.or_false,Bool.true_or,Bool.or_true,Bool.false_and,Bool.and_false,Bool.true_and,Bool.and_true,Bool.not_true,Bool.not_false,if_true,if_false,Int.reduceEq]
   ·all_goals (refine⟨eI,_,eR,?_⟩;try simp only[zp])
    have hie:i=p.funcs.length:=by simp at hb;omega
    rw[hie,List.drop_length]at hJ
    have hJ2:(p.funcs.any fun f=>zM [] (zB p++(f.params++f.locals)))=false:=hJ
    rw[zg6,hJ2];(try simp only[Bool.not_eq_true',Bool.not_eq_false']at *);simp only[*,decide_true,decide_false,Bool.false_or,Bool.or_false,Bool.true_or,Bool.or_true,Bool.false_and,Bool.and_false,Bool.true_and,Bool.and_true,Bool.not_true,Bool.not_false,if_true,if_false,Int.reduceEq]
 ·repeat' (first
   | (apply Rx.nl ?_;clear hK K)|apply Rx.o ?_|apply Rx.on ?_|(apply Rx.gd (fun hg hgp=>?_) (fun hg hgp=>?_)<;>try (cases hg;done))|(apply Rx.cd (fun hb hbp=>?_) (fun hb hbp=>?_)<;>try (cases hb;done))|apply Wp.seq ?_|(apply zd fun K hK=>?_)|apply Wp.block ?_|apply zh ?_|apply Rx.rt ?_|apply zk ?_)
  all_goals (refine⟨eI,_,eR,?_⟩;try simp only[zp])
  rw[zg6];(try simp only[Bool.not_eq_true',Bool.not_eq_false']at *);simp only[*,decide_true,decide_false,Bool.false_or,Bool.or_false,Bool.true_or,Bool.or_true,Bool.false_and,Bool.and_false,Bool.true_and,Bool.and_true,Bool.not_true,Bool.not_false,if_true,if_false,Int.reduceEq])
end Go.Proofs.Ytpbcimfiofmoeaa
namespace Go.Proofs.Ytpbcimfiofmoeaa
set_option maxRecDepth 20000
set_option maxRecDepth 20000
open Go Go.Ab
namespace tyV5
end tyV5
open tyV5
def zbR (n:Nd):List UInt8:=zlp (zih n)
end Go.Proofs.Ytpbcimfiofmoeaa
namespace Go.Proofs.Ytpbcimfiofmoeaa
set_option maxRecDepth 20000
open Go Go.Ab
theorem zbK {l:List Ex}{i:Nat}{k:Ex} (hw:zaJ l=true) (h:l[i]?=some k):wfE k=true:=by
 induction l generalizing i with
 | nil=>simp at h
 | cons e es ih=>
   rw[zaJ,Bool.and_eq_true]at hw
   cases i with
   | zero=>simp at h;subst h;exact hw.1
   | succ i=>exact ih hw.2 (by simpa using h)
theorem zfa {α:Type} (l:List α) {i:Nat} (h:i < l.length):∃ k,l[i]?=some k:=⟨l[i],List.getElem?_eq_getElem h⟩
section
variable (p:Pr) (fi:List (Nm × Int))
end
theorem zly (s:Nm):∀ (l:List Fu) (i:Nat) (m:List (Nm×Int)),yz (l.map (·.name)) s=false→lkV (zdr l i m) s=lkV m s
 | [],_,m,_=>rfl
 | f::l,i,m,h=>by
   rw[List.map_cons,show f.name::l.map (·.name)=[f.name]++l.map (·.name)from rfl,yU,zaK,Bool.or_eq_false_iff,decide_eq_false_iff_not]at h
   rw[zdr,zly s l _ _ h.2,ze8,if_neg h.1]
theorem zjt (s:Nm):∀ (l:List Fu) (seen:List (List UInt8)) (i:Nat) (m:List (Nm×Int)),zM seen (l.map (·.name))=false→0≤yw l s i→lkV (zdr l i m) s=yw l s i
 | [],_,i,m,_,h=>by simp[yw]at h
 | f::l,seen,i,m,hn,h=>by
   rw[List.map_cons,zM,Bool.or_eq_false_iff]at hn
   rw[yw]at h ⊢
   by_cases e:f.name=s
   ·have h3:yz (l.map (·.name)) s=false:=zcz _ _ hn.2 s (by rw[yU,zaK,decide_eq_true e.symm,Bool.or_true])
    rw[if_pos e,zdr,zly s l _ _ h3,ze8,if_pos e.symm]
   ·rw[if_neg e]at h ⊢
    rw[zdr]
    exact zjt s l (seen++[f.name]) (i+1) _ hn.2 h
structure Valid (p:Pr):Prop where
 ex:exB p=false
 wf:wfP p=true
 du:zgl p=false
 un:p.funcs.any (zcg p)=false
 ba:p.funcs.any (zcy p)=false
theorem zqR {p:Pr} (h:yE p=0):Valid p:=by
 rw[yE]at h
 by_cases h1:exB p=true
 ·rw[if_pos h1]at h;omega
 rw[if_neg h1]at h
 by_cases h2:wfP p=false
 ·rw[if_pos h2]at h;omega
 rw[if_neg h2]at h
 by_cases h3:zgl p=true
 ·rw[if_pos h3]at h;omega
 rw[if_neg h3]at h
 by_cases h4:p.funcs.any (zcg p)=true
 ·rw[if_pos h4]at h;omega
 rw[if_neg h4]at h
 by_cases h5:p.funcs.any (zcy p)=true
 ·rw[if_pos h5]at h;omega
 exact⟨by simpa using h1,by simpa using h2,by simpa using h3,by simpa using h4,by simpa using h5⟩
theorem Valid.names {p:Pr} (h:Valid p):zM [] (zB p)=false∧zM [] (jw p)=false:=by
 have hd:=h.du
 rw[zgl,zen,Bool.or_eq_false_iff,Bool.or_eq_false_iff]at hd
 exact⟨hd.1,hd.2.1⟩
theorem ziv:∀ (l seen:List (List UInt8)),zM seen l=false→l.Nodup
 | [],_,_=>List.nodup_nil
 | s::l,seen,h=>by
   rw[zM,Bool.or_eq_false_iff]at h
   refine List.nodup_cons.2 ⟨fun hm=>?_,ziv l _ h.2⟩
   have:=zcz _ _ h.2 s (by rw[yU,zaK,decide_eq_true rfl,Bool.or_true])
   rw[yz,List.any_eq_false]at this
   exact this s hm (by simp)
theorem Valid.nodup {p:Pr} (h:Valid p):(p.arrays.map (·.name)).Nodup:=ziv _ _ h.names.1
structure Bd where
 l:List Nd
 vars:List Int
 state:Int
 loops:Nat
structure Cx where
 arrays:List Ar
 funcs:List Fu
 names:List Nm
def zbl (l:List Nd) (n:Nd):Nat:=l.findIdx fun x=>decide (x=n)
def zaA (l:List Nd) (n:Nd):List Nd:=if zbl l n < l.length then l else l++[n]
def zm (n:Nd) (s:Bd):Int×Bd:=(zbl s.l n,{ s with l:=zaA s.l n })
def ixS:List Nm→Nm→Nat
 | [],_=>0
 | a::l,s=>if a=s then 0 else if yz l s=true then ixS l s+1 else 0
def zt (c a b:Int) (s:Bd):Int×Bd:=if a=b then (a,s)else zm ⟨22,0,[c,a,b]⟩ s
def zbA (trap v:Int) (s:Bd):Bd:=let r:=zm ⟨27,trap,[s.state,v]⟩ s;{ r.2 with state:=r.1 }
def zaL (len i:Int) (s:Bd):Bd:=
 let r1:=zm ⟨1,len,[]⟩ s
 let r2:=zm ⟨19,0,[i,r1.1]⟩ r1.2
 zbA 2 r2.1 r2.2
def zfb (v:Int) (s:Bd):Bd:=
 let z:=zm ⟨1,0,[]⟩ s
 let c:=zm ⟨16,0,[v,z.1]⟩ z.2
 zbA 1 c.1 c.2
def exL (c:Cx):Nat→Ex→Bd→Option (Int×Bd)
 | 0,_,_=>none
 | n+1,x,s=>
   if x.kind=1 then some (zm ⟨1,x.n,[]⟩ s)
   else if x.kind=2 then (s.vars[ixS c.names x.name]?).map fun v=>(v,s)
   else if x.kind=3 then
    (x.kids[0]?).bind fun k=>(exL c n k s).bind fun r=>(c.arrays[ixS (c.arrays.map (·.name)) x.name]?).bind fun a=>
      let s2:=zaL a.len r.1 r.2
      some (zm ⟨23,ixS (c.arrays.map (·.name)) x.name,[s2.state,r.1]⟩ s2)
   else if x.kind=5 then
    (x.kids[0]?).bind fun k0=>(exL c n k0 s).bind fun r0=>
    (x.kids[1]?).bind fun k1=>(exL c n k1 r0.2).bind fun r1=>
    (x.kids[2]?).bind fun k2=>(exL c n k2 { r1.2 with state:=r0.2.state }).bind fun r2=>
      let v:=zt r0.1 r1.1 r2.1 r2.2
      let t:=zt r0.1 r1.2.state v.2.state v.2
      some (v.1,{ t.2 with state:=t.1 })
   else
    (x.kids[0]?).bind fun k0=>(exL c n k0 s).bind fun r0=>
      if x.kids.length=1 then some (zm ⟨x.op,0,[r0.1]⟩ r0.2)
      else (x.kids[1]?).bind fun k1=>(exL c n k1 r0.2).bind fun r1=>
       some (zm ⟨x.op,0,[r0.1,r1.1]⟩ (if x.op=7∨x.op=8 then zfb r1.1 r1.2 else r1.2))
def zg7 (c:Cx) (n:Nat):List Ex→Bd→Option (List Int×Bd)
 | [],s=>some ([],s)
 | x::l,s=>(exL c n x s).bind fun r=>(zg7 c n l r.2).bind fun r2=>some (r.1::r2.1,r2.2)
def zbh (names:List Nm):Nat→List St→List Bool→Option (List Bool)
 | 0,_,_=>none
 | n+1,l,b=>match l with
   | []=>some b
   | x::l=>
     if (x.kind=1∨x.kind=6)∧b.length≤ixS names x.name then none
     else (zbh names n x.thn (if x.kind=1∨x.kind=6 then b.set (ixS names x.name) true else b)).bind fun b2=>(zbh names n x.els b2).bind fun b3=>zbh names n l b3
def yA (b:List Bool):List Nat:=(List.range b.length).filter fun i=>b.getD i false
def mvL (c:Int) (a:List Int):Nat→Nat→Bd→Option Bd
 | 0,_,s=>some s
 | k+1,i,s=>(a[i]?).bind fun x=>(s.vars[i]?).bind fun y=>
   let r:=zt c x y s
   mvL c a k (i+1) { r.2 with vars:=r.2.vars.set i r.1 }
def lvL (base:Int):List Nat→Nat→Bd→Bd
 | [],_,s=>s
 | w::ws,j,s=>let r:=zm ⟨3,base+j,[]⟩ s;lvL base ws (j+1) { r.2 with vars:=r.2.vars.set w r.1 }
def lrL (loop c:Int) (old:List Int):List Nat→Nat→Bd→Bd
 | [],_,s=>s
 | w::ws,j,s=>
   let f:=zm ⟨25,j,[loop]⟩ s
   let m:=zt c f.1 (old.getD w 0) f.2
   lrL loop c old ws (j+1) { m.2 with vars:=m.2.vars.set w m.1 }
section
variable (c:Cx)
mutual
def stL:Nat→St→Bd→Option Bd
 | 0,_,_=>none
 | n+1,x,s=>
   if x.kind=1 then (exL c n x.value s).bind fun r=>if ixS c.names x.name < r.2.vars.length then some { r.2 with vars:=r.2.vars.set (ixS c.names x.name) r.1 }else none
   else if x.kind=2 then (exL c n x.at_ s).bind fun i=>(exL c n x.value i.2).bind fun v=>(c.arrays[ixS (c.arrays.map (·.name)) x.name]?).bind fun a=>
    let s2:=zaL a.len i.1 v.2
    let r:=zm ⟨28,ixS (c.arrays.map (·.name)) x.name,[s2.state,i.1,v.1]⟩ s2
    some { r.2 with state:=r.1 }
   else if x.kind=3 then (exL c n x.value s).bind fun r=>(zav n x.thn r.2).bind fun a=>(zav n x.els { a with state:=r.2.state,vars:=r.2.vars }).bind fun b=>
    (mvL r.1 a.vars b.vars.length 0 b).bind fun m=>
      let t:=zt r.1 a.state m.state m
      some { t.2 with state:=t.1 }
   else if x.kind=4 then whL n x s
   else if x.kind=5 then (exL c n x.value s).bind fun v=>
    let r:=zm ⟨29,0,[v.2.state,v.1]⟩ v.2
    some { r.2 with state:=r.1 }
   else if x.kind=6 then (zg7 c n x.args s).bind fun av=>
    if 0≤yw c.funcs x.to 0∧ixS c.names x.name < av.2.vars.length then
     let r:=zm ⟨30,yw c.funcs x.to 0,av.2.state::av.1⟩ av.2
     let q:=zm ⟨24,0,[r.1]⟩ { r.2 with state:=r.1 }
     some { q.2 with vars:=q.2.vars.set (ixS c.names x.name) q.1 }
    else none
   else if x.kind=7 then let z:=zm ⟨1,0,[]⟩ s;some (zbA (w64 (16+x.n)) z.1 z.2)
   else some s
def zav:Nat→List St→Bd→Option Bd
 | 0,_,_=>none
 | n+1,l,s=>match l with
   | []=>some s
   | x::l=>(stL n x s).bind fun r=>zav n l r
def whL:Nat→St→Bd→Option Bd
 | 0,_,_=>none
 | n+1,x,s=>(exL c n x.value { s with loops:=s.loops+1 }).bind fun r=>(zbh c.names n x.thn (List.replicate r.2.vars.length false)).bind fun b=>
   let p:=zm ⟨3,16 * (s.loops:Int),[]⟩ r.2
   (zav n x.thn (lvL (16 * (s.loops:Int)+1) (yA b) 0 { p.2 with state:=p.1 })).bind fun t=>(exL c n x.value t).bind fun d=>
     let k:=zm ⟨31,s.loops,r.2.state::((yA b).map fun i=>r.2.vars.getD i 0)++[d.1,d.2.state]++((yA b).map fun i=>d.2.vars.getD i 0)⟩ d.2
     let f:=zm ⟨25,0,[k.1]⟩ { k.2 with vars:=r.2.vars }
     let m:=zt r.1 f.1 r.2.state f.2
     some (lrL k.1 r.1 r.2.vars (yA b) 1 { m.2 with state:=m.1 })
end
end
def prL:Nat→Nat→Bd→Bd
 | 0,_,s=>s
 | n+1,k,s=>let r:=zm ⟨2,k,[]⟩ s;prL n (k+1) { r.2 with vars:=r.2.vars++[r.1] }
def loL:Nat→Bd→Bd
 | 0,s=>s
 | n+1,s=>let r:=zm ⟨1,0,[]⟩ s;loL n { r.2 with vars:=r.2.vars++[r.1] }
def j6 (f:Fu):Bd:=let e:=zm ⟨26,0,[]⟩ ⟨[],[],0,0⟩;loL f.locals.length (prL f.params.length 0 { e.2 with state:=e.1 })
def cxL (p:Pr) (f:Fu):Cx:=⟨p.arrays,p.funcs,f.params++f.locals⟩
def fnL (p:Pr) (n:Nat) (f:Fu):Option Gr:=(zav (cxL p f) n f.body (j6 f)).bind fun s=>(exL (cxL p f) n f.value s).bind fun v=>some ⟨f.name,f.params.length,v.2.l,v.1,v.2.state⟩
def zg8 (p:Pr) (n:Nat):List Fu→List Gr→Option (Un×Int)
 | [],gs=>some (⟨p.arrays,gs⟩,0)
 | f::l,gs=>(fnL p n f).bind fun g=>if (2000:Int) < g.nodes.length then some (⟨[],[]⟩,6)else zg8 p n l (gs++[g])
def zlz (p:Pr) (n:Nat):Option (Un×Int):=if yE p=0 then zg8 p n p.funcs []else some (⟨[],[]⟩,yE p)
structure NdR (n:Nd):Prop where
 op:0≤n.op∧n.op < 256
 imm:-9223372036854775808≤n.imm∧n.imm < 9223372036854775808
 kids:∀ k∈n.kids,0≤k∧k < 2 ^ 60
 len:n.kids.length < 2 ^ 30
theorem zn2 (n:Int):zce n 0=n % 256:=by
 rw[zce,IntKind.wrap_u8]
 simp[Int.fdiv_one]
theorem ziw (n:Int) (i:Nat):zce n (i+1)=zce (n / 256) i:=by
 rw[zce,zce]
 have e:(2:Int) ^ (8 * (i+1))=256 * 2 ^ (8 * i):=by
  rw[Nat.mul_add,Int.pow_add];omega
 have p:(0:Int)≤2 ^ (8 * i):=Int.le_of_lt (Int.pow_pos (by decide))
 rw[e,Int.fdiv_eq_ediv_of_nonneg _ (by omega),Int.fdiv_eq_ediv_of_nonneg _ p,Int.ediv_ediv_of_nonneg (by decide)]
theorem zo7 (n:Int) (i:Nat):0≤zce n i∧zce n i < 256:=by
 rw[zce,IntKind.wrap_u8];omega
theorem zju:∀ (k:Nat) (n m:Int),0≤n→n < 256 ^ k→0≤m→m < 256 ^ k→(∀ i,i < k→zce n i=zce m i)→n=m
 | 0,n,m,h1,h2,h3,h4,_=>by simp at h2 h4;omega
 | k+1,n,m,h1,h2,h3,h4,h=>by
   have e:(256:Int) ^ (k+1)=256 * 256 ^ k:=by rw[Int.pow_succ];omega
   rw[e]at h2 h4
   have h0:=h 0 (by omega)
   rw[zn2,zn2]at h0
   have ih:=zju k (n / 256) (m / 256) (by omega) (by generalize (256:Int) ^ k=P at *;omega) (by omega) (by generalize (256:Int) ^ k=P at *;omega) (fun i hi=>by rw[← ziw,← ziw];exact h (i+1) (by omega))
   omega
theorem zlA:∀ {l m:List Int},(∀ x∈l,0≤x∧x < 256)→(∀ x∈m,0≤x∧x < 256)→zlp l=zlp m→l=m
 | [],[],_,_,_=>rfl
 | [],_::_,_,_,h=>by simp[zlp]at h
 | _::_,[],_,_,h=>by simp[zlp]at h
 | a::l,b::m,hl,hm,h=>by
   simp only[zlp,List.map_cons,List.cons.injEq]at h
   have h1:=hl a List.mem_cons_self
   have h2:=hm b List.mem_cons_self
   have e:a=b:=by
    have:=congrArg UInt8.toNat h.1
    rw[UInt8.toNat_ofNat',UInt8.toNat_ofNat']at this
    omega
   rw[e,zlA (fun x hx=>hl x (List.mem_cons_of_mem _ hx)) (fun x hx=>hm x (List.mem_cons_of_mem _ hx)) h.2]
theorem zix (n:Int) (k:Nat):∀ x∈jT n k,0≤x∧x < 256:=fun x hx=>by
 obtain⟨i,_,rfl⟩:=List.mem_map.1 hx
 exact zo7 n i
theorem zjv (n:Nd):∀ x∈zih n,0≤x∧x < 256:=fun x hx=>by
 rw[zih,List.mem_cons,List.mem_append,List.mem_flatMap]at hx
 rcases hx with rfl|hx|⟨k,_,hx⟩
 ·rw[IntKind.wrap_u8];omega
 ·exact zix _ _ x hx
 ·exact zix _ _ x hx
theorem ziy {n m:Int} (h1:0≤n) (h2:n < 18446744073709551616) (h3:0≤m) (h4:m < 18446744073709551616) (h:jT n 8=jT m 8):n=m:=
 zju 8 n m h1 (by omega) h3 (by omega) fun i hi=>List.map_inj_left.1 h i (List.mem_range.2 hi)
theorem zlB (n:Int):0≤IntKind.wrap .u64 n∧IntKind.wrap .u64 n < 18446744073709551616:=by rw[IntKind.wrap_u64];omega
theorem ziz:∀ {ks ms:List Int},(∀ k∈ks,0≤k∧k < 2 ^ 60)→(∀ k∈ms,0≤k∧k < 2 ^ 60)→(ks.flatMap fun k=>jT (IntKind.wrap .u64 k) 8)=(ms.flatMap fun k=>jT (IntKind.wrap .u64 k) 8)→ks=ms
 | [],[],_,_,_=>rfl
 | [],m::ms,_,_,h=>by
   have:=congrArg List.length h
   rw[List.flatMap_cons,List.length_append,zac]at this
   simp at this;omega
 | k::ks,[],_,_,h=>by
   have:=congrArg List.length h
   rw[List.flatMap_cons,List.length_append,zac]at this
   simp at this
 | k::ks,m::ms,hk,hm,h=>by
   rw[List.flatMap_cons,List.flatMap_cons]at h
   obtain⟨h1,h2⟩:=List.append_inj h (by rw[zac,zac])
   have e:=ziy (zlB k).1 (zlB k).2 (zlB m).1 (zlB m).2 h1
   have a1:=hk k List.mem_cons_self
   have a2:=hm m List.mem_cons_self
   rw[IntKind.wrap_u64,IntKind.wrap_u64]at e
   have e2:k=m:=by omega
   rw[e2,ziz (fun x hx=>hk x (List.mem_cons_of_mem _ hx)) (fun x hx=>hm x (List.mem_cons_of_mem _ hx)) h2]
theorem zo8 {a b:Nd} (ha:NdR a) (hb:NdR b) (h:zbR a=zbR b):a=b:=by
 have h:=zlA (zjv a) (zjv b) h
 rw[zih,zih,List.cons.injEq]at h
 obtain⟨h1,h2⟩:=h
 obtain⟨h3,h4⟩:=List.append_inj h2 (by rw[zac,zac])
 have e3:=ziy (zlB _).1 (zlB _).2 (zlB _).1 (zlB _).2 h3
 have e4:=ziz ha.kids hb.kids h4
 have o1:=ha.op
 have o2:=hb.op
 have i1:=ha.imm
 have i2:=hb.imm
 rw[IntKind.wrap_u8,IntKind.wrap_u8]at h1
 rw[IntKind.wrap_u64,IntKind.wrap_u64]at e3
 obtain⟨ao,ai,ak⟩:=a
 obtain⟨bo,bi,bk⟩:=b
 simp only at *
 rw[show ao=bo by omega,show ai=bi by omega,e4]
theorem zo9 (x:Nd) (l:List Nd) (n:Nd):zbl (x::l) n=if x=n then 0 else zbl l n+1:=by
 unfold zbl
 rw[List.findIdx_cons]
 by_cases h:x=n<;>simp[h]
theorem zhq (l:List Nd) (n:Nd):zbl l n≤l.length:=by unfold zbl;exact List.findIdx_le_length
theorem ixNd_lt {l:List Nd}{n:Nd}:zbl l n < l.length↔n∈l:=by
 unfold zbl
 rw[List.findIdx_lt_length]
 simp
theorem zlC {l:List Nd}{n:Nd} (h:zbl l n < l.length):l[zbl l n]?=some n:=by
 rw[List.getElem?_eq_getElem h]
 have:=List.findIdx_getElem (p:=fun x=>decide (x=n)) (xs:=l) (w:=h)
 simp only[decide_eq_true_eq]at this
 exact congrArg some this
theorem zpa (l:List Nd) (n:Nd):(zaA l n).length=if zbl l n < l.length then l.length else l.length+1:=by
 unfold zaA
 split<;>simp[*]
theorem za6 (l:List Nd) (n:Nd):l<+:zaA l n:=by
 unfold zaA
 split
 ·exact List.prefix_refl l
 ·exact List.prefix_append l [n]
theorem zjw (l:List Nd) (n:Nd):(zaA l n)[zbl l n]?=some n:=by
 unfold zaA
 split
 ·rename_i h;exact zlC h
 ·rename_i h
  have:=zhq l n
  have e:zbl l n=l.length:=by omega
  rw[e,List.getElem?_append_right (Nat.le_refl _),Nat.sub_self];rfl
theorem zpb {l:List Nd}{n x:Nd}:x∈zaA l n↔x∈l∨x=n:=by
 unfold zaA
 split
 ·rename_i h
  have:=ixNd_lt.1 h
  constructor
  ·exact .inl
  ·rintro(h|rfl)
   ·exact h
   ·exact this
 ·simp
def atV (l:List Nd) (i:Nat):List (Nm×Int):=(l.zipIdx i).map fun p=>(zbR p.1,(p.2:Int))
theorem zqS (x:Nd) (l:List Nd) (i:Nat):atV (x::l) i=(zbR x,(i:Int))::atV l (i+1):=by rw[atV,List.zipIdx_cons];rfl
theorem zlD {n:Nd} (hn:NdR n):∀ (l:List Nd) (i:Nat),(∀ x∈l,NdR x)→zbN (atV l i) (zbR n)=decide (zbl l n < l.length)∧(zbl l n < l.length→lkV (atV l i) (zbR n)=((i+zbl l n:Nat):Int))∧(¬ zbl l n < l.length→∀ x,setV (atV l i) (zbR n) x=atV l i++[(zbR n,x)])
 | [],i,_=>⟨rfl,fun h=>by simp[zbl]at h,fun _ x=>rfl⟩
 | x::l,i,hl=>by
   obtain⟨h1,h2,h3⟩:=zlD hn l (i+1) fun y hy=>hl y (List.mem_cons_of_mem _ hy)
   rw[zo9,zqS,List.length_cons]
   by_cases e:x=n
   ·subst e
    refine⟨by simp[zbN],fun _=>by simp[lkV],fun h=>by simp at h⟩
   ·have ek:¬ zbR n=zbR x:=fun h=>e (zo8 hn (hl x List.mem_cons_self) h).symm
    rw[if_neg e]
    refine⟨?_,fun h=>?_,fun h y=>?_⟩
    ·simp only[zbN,ek]
     rw[h1]
     simp
    ·have:=h2 (by omega)
     simp only[lkV,ek,if_false]
     rw[this];congr 1;omega
    ·have:=h3 (by omega) y
     simp only[setV,ek,if_false,this,List.cons_append]
theorem zqT (l:List Nd) (n:Nd):atV l 0++[(zbR n,(l.length:Int))]=atV (l++[n]) 0:=by
 simp[atV,List.zipIdx_append]
structure Le (a b:Bd):Prop where
 l:a.l<+:b.l
 n:a.loops≤b.loops
theorem Le.refl (a:Bd):Le a a:=⟨List.prefix_refl _,Nat.le_refl _⟩
theorem Le.trans {a b c:Bd} (h:Le a b) (k:Le b c):Le a c:=⟨h.l.trans k.l,Nat.le_trans h.n k.n⟩
structure Fin (s:Bd):Prop where
 r:∀ x∈s.l,NdR x
 l:s.l.length < 2 ^ 36
 n:s.loops < 2 ^ 36
theorem Fin.le {a b:Bd} (h:Fin b) (k:Le a b):Fin a:=⟨fun x hx=>h.r x (k.l.subset hx),Nat.lt_of_le_of_lt k.l.length_le h.l,Nat.lt_of_le_of_lt k.n h.n⟩
structure Lv (a b:Bd):Prop where
 le:Le a b
 v:b.vars=a.vars
 n:b.loops=a.loops
theorem Lv.refl (a:Bd):Lv a a:=⟨Le.refl a,rfl,rfl⟩
theorem Lv.trans {a b c:Bd} (h:Lv a b) (k:Lv b c):Lv a c:=⟨h.le.trans k.le,k.v.trans h.v,k.n.trans h.n⟩
theorem Lv.setS {a b:Bd} (h:Lv a b) (x:Int):Lv a { b with state:=x }:=⟨⟨h.le.l,h.le.n⟩,h.v,h.n⟩
theorem Le.setS {a b:Bd} (h:Le a b) (x:Int):Le a { b with state:=x }:=⟨h.l,h.n⟩
theorem Le.setV {a b:Bd} (h:Le a b) (x:List Int):Le a { b with vars:=x }:=⟨h.l,h.n⟩
theorem zV (n:Nd) (s:Bd):Lv s (zm n s).2:=⟨⟨za6 s.l n,Nat.le_refl _⟩,rfl,rfl⟩
theorem yf (c a b:Int) (s:Bd):Lv s (zt c a b s).2:=by
 unfold zt
 split
 ·exact Lv.refl s
 ·exact zV _ s
theorem za7 (t v:Int) (s:Bd):Lv s (zbA t v s):=(zV _ s).setS _
theorem zdt (t v:Int) (s:Bd):Lv s (zaL t v s):=(zV _ s).trans ((zV _ _).trans (za7 _ _ _))
theorem zkc (v:Int) (s:Bd):Lv s (zfb v s):=(zV _ s).trans ((zV _ _).trans (za7 _ _ _))
theorem yg (c:Cx):∀ (n:Nat) (x:Ex) (s:Bd) (r:Int×Bd),exL c n x s=some r→Lv s r.2
 | 0,_,_,_,h=>by simp[exL]at h
 | n+1,x,s,r,h=>by
   have IH:=yg c n
   unfold exL at h
   split at h
   ·cases h;exact zV _ s
   split at h
   ·obtain⟨v,_,rfl⟩:=Option.map_eq_some_iff.1 h;exact Lv.refl s
   split at h
   ·simp only[Option.bind_eq_some_iff,Option.some.injEq]at h
    obtain⟨k,_,r1,h1,a,_,rfl⟩:=h
    exact(IH _ _ _ h1).trans ((zdt _ _ _).trans (zV _ _))
   split at h
   ·simp only[Option.bind_eq_some_iff,Option.some.injEq]at h
    obtain⟨k0,_,r0,h0,k1,_,r1,h1,k2,_,r2,h2,rfl⟩:=h
    have a:=(IH _ _ _ h0).trans (IH _ _ _ h1)
    have b:=(a.setS r0.2.state).trans (IH _ _ _ h2)
    exact(b.trans ((yf _ _ _ _).trans (yf _ _ _ _))).setS _
   ·simp only[Option.bind_eq_some_iff]at h
    obtain⟨k0,_,r0,h0,h⟩:=h
    have a:=IH _ _ _ h0
    split at h
    ·cases h;exact a.trans (zV _ _)
    ·simp only[Option.bind_eq_some_iff,Option.some.injEq]at h
     obtain⟨k1,_,r1,h1,rfl⟩:=h
     have b:=a.trans (IH _ _ _ h1)
     refine Lv.trans ?_ (zV _ _)
     split
     ·exact b.trans (zkc _ _)
     ·exact b
theorem zdu (c:Cx) (n:Nat):∀ (l:List Ex) (s:Bd) (r:List Int×Bd),zg7 c n l s=some r→Lv s r.2∧r.1.length=l.length
 | [],s,r,h=>by cases h;exact⟨Lv.refl s,rfl⟩
 | x::l,s,r,h=>by
   unfold zg7 at h
   simp only[Option.bind_eq_some_iff,Option.some.injEq]at h
   obtain⟨r1,h1,r2,h2,rfl⟩:=h
   obtain⟨a,b⟩:=zdu c n l _ _ h2
   exact⟨(yg c n _ _ _ h1).trans a,by simp[b]⟩
theorem zgn (c:Int) (a:List Int):∀ (k i:Nat) (s r:Bd),mvL c a k i s=some r→Le s r∧r.state=s.state∧r.vars.length=s.vars.length∧r.loops=s.loops
 | 0,i,s,r,h=>by cases h;exact⟨Le.refl s,rfl,rfl,rfl⟩
 | k+1,i,s,r,h=>by
   unfold mvL at h
   simp only[Option.bind_eq_some_iff]at h
   obtain⟨x,_,y,_,h⟩:=h
   have e:=zgn c a k (i+1) _ _ h
   have m:=yf c x y s
   have hs:(zt c x y s).2.state=s.state:=by unfold zt;split<;>rfl
   refine⟨(m.le.setV _).trans e.1,e.2.1.trans hs,?_,e.2.2.2.trans m.n⟩
   rw[e.2.2.1,List.length_set,m.v]
theorem zdv (base:Int):∀ (ws:List Nat) (j:Nat) (s:Bd),Le s (lvL base ws j s)∧(lvL base ws j s).state=s.state∧(lvL base ws j s).vars.length=s.vars.length∧(lvL base ws j s).loops=s.loops
 | [],j,s=>⟨Le.refl s,rfl,rfl,rfl⟩
 | w::ws,j,s=>by
   unfold lvL
   have e:=zdv base ws (j+1) { (zm ⟨3,base+j,[]⟩ s).2 with vars:=(zm ⟨3,base+j,[]⟩ s).2.vars.set w (zm ⟨3,base+j,[]⟩ s).1 }
   refine⟨((zV _ s).le.setV _).trans e.1,e.2.1,?_,e.2.2.2⟩
   rw[e.2.2.1,List.length_set];rfl
theorem zfc (lp c:Int) (old:List Int):∀ (ws:List Nat) (j:Nat) (s:Bd),Le s (lrL lp c old ws j s)∧(lrL lp c old ws j s).state=s.state∧(lrL lp c old ws j s).vars.length=s.vars.length∧(lrL lp c old ws j s).loops=s.loops
 | [],j,s=>⟨Le.refl s,rfl,rfl,rfl⟩
 | w::ws,j,s=>by
   unfold lrL
   simp only[]
   have m:=(zV ⟨25,j,[lp]⟩ s).trans (yf c (zm ⟨25,j,[lp]⟩ s).1 (old.getD w 0) (zm ⟨25,j,[lp]⟩ s).2)
   have hs:(zt c (zm ⟨25,j,[lp]⟩ s).1 (old.getD w 0) (zm ⟨25,j,[lp]⟩ s).2).2.state=s.state:=by unfold zt;split<;>rfl
   generalize zt c (zm ⟨25,j,[lp]⟩ s).1 (old.getD w 0) (zm ⟨25,j,[lp]⟩ s).2=q at *
   have e:=zfc lp c old ws (j+1) { q.2 with vars:=q.2.vars.set w q.1 }
   refine⟨(m.le.setV _).trans e.1,e.2.1.trans hs,?_,e.2.2.2.trans m.n⟩
   rw[e.2.2.1,List.length_set,m.v]
theorem zaD (c:Cx):∀ n:Nat,(∀ x s r,stL c n x s=some r→Le s r∧r.vars.length=s.vars.length)∧(∀ l s r,zav c n l s=some r→Le s r∧r.vars.length=s.vars.length)∧(∀ x s r,whL c n x s=some r→Le s r∧r.vars.length=s.vars.length)
 | 0=>⟨fun _ _ _ h=>by simp[stL]at h,fun _ _ _ h=>by simp[zav]at h,fun _ _ _ h=>by simp[whL]at h⟩
 | n+1=>by
   obtain⟨I1,I2,I3⟩:=zaD c n
   refine⟨fun x s r h=>?_,fun l s r h=>?_,fun x s r h=>?_⟩
   ·unfold stL at h
    split at h
    ·simp only[Option.bind_eq_some_iff]at h
     obtain⟨v,h1,h⟩:=h
     split at h
     ·cases h
      have a:=yg c n _ _ _ h1
      exact⟨a.le.setV _,by rw[List.length_set,a.v]⟩
     ·cases h
    split at h
    ·simp only[Option.bind_eq_some_iff,Option.some.injEq]at h
     obtain⟨i,h1,v,h2,a,_,rfl⟩:=h
     have a:=(yg c n _ _ _ h1).trans ((yg c n _ _ _ h2).trans ((zdt a.len i.1 v.2).trans (zV ⟨28,ixS (c.arrays.map (·.name)) x.name,[(zaL a.len i.1 v.2).state,i.1,v.1]⟩ _)))
     exact⟨a.le.setS _,by show List.length (Bd.vars _)=_;rw[a.v]⟩
    split at h
    ·simp only[Option.bind_eq_some_iff,Option.some.injEq]at h
     obtain⟨q,h1,a,h2,b,h3,m,h4,rfl⟩:=h
     have e1:=yg c n _ _ _ h1
     have e2:=I2 _ _ _ h2
     have e3:=I2 _ _ _ h3
     have e4:=zgn _ _ _ _ _ _ h4
     have e5:=yf q.1 a.state m.state m
     have k:Le a b:=⟨e3.1.l,e3.1.n⟩
     refine⟨(e1.le.trans (e2.1.trans (k.trans (e4.1.trans e5.le)))).setS _,?_⟩
     show(zt q.1 a.state m.state m).2.vars.length=_
     rw[e5.v,e4.2.2.1,e3.2]
     show q.2.vars.length=_
     rw[e1.v]
    split at h
    ·exact I3 _ _ _ h
    split at h
    ·simp only[Option.bind_eq_some_iff,Option.some.injEq]at h
     obtain⟨v,h1,rfl⟩:=h
     have a:=(yg c n _ _ _ h1).trans (zV ⟨29,0,[v.2.state,v.1]⟩ v.2)
     exact⟨a.le.setS _,by show List.length (Bd.vars _)=_;rw[a.v]⟩
    split at h
    ·simp only[Option.bind_eq_some_iff]at h
     obtain⟨av,h1,h⟩:=h
     split at h
     ·cases h
      have a:=(zdu c n _ _ _ h1).1
      have b:=a.le.trans (zV ⟨30,yw c.funcs x.to 0,av.2.state::av.1⟩ av.2).le
      refine⟨Le.setV (Le.trans (b.setS _) (zV _ _).le) _,?_⟩
      rw[List.length_set]
      exact congrArg List.length a.v
     ·cases h
    split at h
    ·cases h
     have a:=(zV ⟨1,0,[]⟩ s).trans (za7 (w64 (16+x.n)) (zm ⟨1,0,[]⟩ s).1 _)
     exact⟨a.le,by rw[a.v]⟩
    ·cases h;exact⟨Le.refl s,rfl⟩
   ·unfold zav at h
    cases l with
    | nil=>cases h;exact⟨Le.refl s,rfl⟩
    | cons x l=>
      simp only[Option.bind_eq_some_iff]at h
      obtain⟨q,h1,h2⟩:=h
      have a:=I1 _ _ _ h1
      have b:=I2 _ _ _ h2
      exact⟨a.1.trans b.1,b.2.trans a.2⟩
   ·unfold whL at h
    simp only[Option.bind_eq_some_iff,Option.some.injEq]at h
    obtain⟨q,h1,b,_,t,h2,d,h3,rfl⟩:=h
    have e1:=yg c n _ _ _ h1
    have e1':Le s q.2:=⟨e1.le.l,Nat.le_trans (Nat.le_succ _) e1.le.n⟩
    have p:=zV ⟨3,16 * (s.loops:Int),[]⟩ q.2
    have e2:=zdv (16 * (s.loops:Int)+1) (yA b) 0 { (zm ⟨3,16 * (s.loops:Int),[]⟩ q.2).2 with state:=(zm ⟨3,16 * (s.loops:Int),[]⟩ q.2).1 }
    have e3:=I2 _ _ _ h2
    have e4:=yg c n _ _ _ h3
    have a1:Le s d.2:=e1'.trans ((p.le.setS _).trans (e2.1.trans (e3.1.trans e4.le)))
    refine⟨?_,?_⟩
    ·refine Le.trans ?_ (zfc _ _ _ _ _ _).1
     refine Le.setS ?_ _
     refine Le.trans (Le.trans ?_ (zV _ _).le) (yf _ _ _ _).le
     refine Le.setV ?_ _
     exact a1.trans (zV _ _).le
    ·rw[(zfc _ _ _ _ _ _).2.2.1]
     show(zt _ _ _ _).2.vars.length=_
     rw[(yf _ _ _ _).v]
     show q.2.vars.length=_
     rw[e1.v]
theorem zeo (b:List Bool) (k i:Nat):(b.set k true).getD i false=if k=i∧k < b.length then true else b.getD i false:=by
 rw[List.getD_eq_getElem?_getD,List.getElem?_set,List.getD_eq_getElem?_getD]
 by_cases e:k=i
 ·subst e
  by_cases h:k < b.length
  ·simp[h]
  ·simp[h,List.getElem?_eq_none (Nat.le_of_not_lt h)]
 ·simp[e]
theorem zep {names:List Nm}{n:Nat}{x:St}{l:List St}{b b':List Bool} (h:zbh names (n+1) (x::l) b=some b') :
 ∃ b1 b2 b3,b1=(if x.kind=1∨x.kind=6 then b.set (ixS names x.name) true else b)∧(x.kind=1∨x.kind=6→ixS names x.name < b.length)∧zbh names n x.thn b1=some b2∧zbh names n x.els b2=some b3∧zbh names n l b3=some b':=by
 unfold zbh at h
 simp only[]at h
 split at h
 ·cases h
 ·rename_i hno
  simp only[Option.bind_eq_some_iff]at h
  obtain⟨b2,h2,b3,h3,h4⟩:=h
  refine⟨_,b2,b3,rfl,fun hk=>?_,h2,h3,h4⟩
  by_cases c:ixS names x.name < b.length
  ·exact c
  ·exact absurd ⟨hk,by omega⟩ hno
theorem zaw (names:List Nm):∀ (n:Nat) (l:List St) (b b':List Bool),zbh names n l b=some b'→∀ i,b'.getD i false=false→b.getD i false=false
 | 0,_,_,_,h,_,_=>by simp[zbh]at h
 | n+1,[],b,b',h,i,hi=>by cases h;exact hi
 | n+1,x::l,b,b',h,i,hi=>by
   obtain⟨b1,b2,b3,e,hk,h2,h3,h4⟩:=zep h
   have:=zaw names n _ _ _ h2 i (zaw names n _ _ _ h3 i (zaw names n _ _ _ h4 i hi))
   rw[e]at this
   split at this
   ·rw[zeo]at this
    split at this
    ·cases this
    ·exact this
   ·exact this
theorem zfK (names:List Nm):∀ (n m:Nat) (l:List St) (b b' c c':List Bool),zbh names n l b=some b'→zbh names m l c=some c'→∀ i,b.getD i false=false→c'.getD i false=false→b'.getD i false=false
 | 0,_,_,_,_,_,_,h,_,_,_,_=>by simp[zbh]at h
 | n+1,0,_,_,_,_,_,_,h,_,_,_=>by simp[zbh]at h
 | n+1,m+1,[],b,b',c,c',h,k,i,hb,hc=>by cases h;exact hb
 | n+1,m+1,x::l,b,b',c,c',h,k,i,hb,hc=>by
   obtain⟨b1,b2,b3,e,hk,h2,h3,h4⟩:=zep h
   obtain⟨c1,c2,c3,e',hk',k2,k3,k4⟩:=zep k
   have q3:=zaw names m _ _ _ k4 i hc
   have q2:=zaw names m _ _ _ k3 i q3
   have q1:=zaw names m _ _ _ k2 i q2
   have r1:b1.getD i false=false:=by
    rw[e]
    split
    ·rename_i hkd
     rw[e',if_pos hkd,zeo]at q1
     split at q1
     ·cases q1
     ·rename_i hne
      rw[zeo,if_neg (fun hh=>hne ⟨hh.1,hk' hkd⟩)]
      exact hb
    ·exact hb
   exact zfK names n m _ _ _ _ _ h4 k4 i (zfK names n m _ _ _ _ _ h3 k3 i (zfK names n m _ _ _ _ _ h2 k2 i r1 q2) q3) hc
def NaL (names:List Nm) (l:List St) (i:Nat):Prop:=∃ m b b',zbh names m l b=some b'∧b'.getD i false=false
theorem NaL.cons {names:List Nm}{x:St}{l:List St}{i:Nat} (h:NaL names (x::l) i):(x.kind=1∨x.kind=6→i≠ixS names x.name)∧NaL names x.thn i∧NaL names x.els i∧NaL names l i:=by
 obtain⟨m,b,b',h,hi⟩:=h
 cases m with
 | zero=>simp[zbh]at h
 | succ m=>
   obtain⟨b1,b2,b3,e,hk,h2,h3,h4⟩:=zep h
   have q3:=zaw names m _ _ _ h4 i hi
   have q2:=zaw names m _ _ _ h3 i q3
   have q1:=zaw names m _ _ _ h2 i q2
   refine⟨fun hkd ei=>?_,⟨m,_,_,h2,q2⟩,⟨m,_,_,h3,q3⟩,⟨m,_,_,h4,hi⟩⟩
   rw[e,if_pos hkd,zeo,if_pos ⟨ei.symm,hk hkd⟩]at q1
   cases q1
theorem zn3 (base:Int):∀ (ws:List Nat) (j:Nat) (s:Bd) (i:Nat),i∉ws→(lvL base ws j s).vars[i]?=s.vars[i]?
 | [],j,s,i,_=>rfl
 | w::ws,j,s,i,h=>by
   rw[List.mem_cons,not_or]at h
   show(lvL base ws (j+1) { (zm ⟨3,base+j,[]⟩ s).2 with vars:=(zm ⟨3,base+j,[]⟩ s).2.vars.set w (zm ⟨3,base+j,[]⟩ s).1 }).vars[i]?=_
   rw[zn3 base ws (j+1) _ i h.2,List.getElem?_set,if_neg (fun e=>h.1 e.symm)]
   rfl
theorem zn4 (lp c:Int) (old:List Int):∀ (ws:List Nat) (j:Nat) (s:Bd) (i:Nat),i∉ws→(lrL lp c old ws j s).vars[i]?=s.vars[i]?
 | [],j,s,i,_=>rfl
 | w::ws,j,s,i,h=>by
   rw[List.mem_cons,not_or]at h
   show(lrL lp c old ws (j+1) { (zt c (zm ⟨25,j,[lp]⟩ s).1 (old.getD w 0) (zm ⟨25,j,[lp]⟩ s).2).2 with vars:=(zt c (zm ⟨25,j,[lp]⟩ s).1 (old.getD w 0) (zm ⟨25,j,[lp]⟩ s).2).2.vars.set w (zt c (zm ⟨25,j,[lp]⟩ s).1 (old.getD w 0) (zm ⟨25,j,[lp]⟩ s).2).1 }).vars[i]?=_
   rw[zn4 lp c old ws (j+1) _ i h.2,List.getElem?_set,if_neg (fun e=>h.1 e.symm),(yf _ _ _ _).v]
   rfl
theorem zn5 (c:Int) (a:List Int):∀ (k j:Nat) (s r:Bd),mvL c a k j s=some r→∀ (i:Nat),a[i]?=s.vars[i]?→r.vars[i]?=s.vars[i]?
 | 0,j,s,r,h,i,_=>by cases h;rfl
 | k+1,j,s,r,h,i,e=>by
   unfold mvL at h
   simp only[Option.bind_eq_some_iff]at h
   obtain⟨x,hx,y,hy,h⟩:=h
   have key:((zt c x y s).2.vars.set j (zt c x y s).1)[i]?=s.vars[i]?:=by
    rw[(yf c x y s).v,List.getElem?_set]
    split
    ·rename_i ei
     subst ei
     rw[hx,hy]at e
     simp only[Option.some.injEq]at e
     subst e
     have hl:j < s.vars.length:=by
      by_cases q:j < s.vars.length
      ·exact q
      ·rw[List.getElem?_eq_none (by omega)]at hy;cases hy
     rw[if_pos hl,hy,zt,if_pos rfl]
    ·rfl
   have:=zn5 c a k (j+1) _ _ h i (by rw[e];exact key.symm)
   rw[this];exact key
theorem zpc {b:List Bool}{i:Nat} (h:b.getD i false=false):i∉yA b:=fun hm=>by
 unfold yA at hm
 have:=(List.mem_filter.1 hm).2
 rw[h]at this
 cases this
theorem zpd {b:List Bool}{i:Nat} (h:i∉yA b):b.getD i false=false:=by
 by_cases c:i < b.length
 ·cases hb:b.getD i false with
  | false=>rfl
  | true=>exact absurd (List.mem_filter.2 ⟨List.mem_range.2 c,hb⟩) h
 ·rw[List.getD_eq_getElem?_getD,List.getElem?_eq_none (by omega)];rfl
theorem zn6 (c:Cx):∀ n:Nat,(∀ x s r,stL c n x s=some r→∀ i,(x.kind=1∨x.kind=6→i≠ixS c.names x.name)→NaL c.names x.thn i→NaL c.names x.els i→r.vars[i]?=s.vars[i]?) ∧
 (∀ l s r,zav c n l s=some r→∀ i,NaL c.names l i→r.vars[i]?=s.vars[i]?)∧(∀ x s r,whL c n x s=some r→∀ i,NaL c.names x.thn i→r.vars[i]?=s.vars[i]?)
 | 0=>⟨fun _ _ _ h=>by simp[stL]at h,fun _ _ _ h=>by simp[zav]at h,fun _ _ _ h=>by simp[whL]at h⟩
 | n+1=>by
   obtain⟨I1,I2,I3⟩:=zn6 c n
   refine⟨fun x s r h i hk ht he=>?_,fun l s r h i hl=>?_,fun x s r h i ht=>?_⟩
   ·unfold stL at h
    split at h
    ·rename_i h1
     simp only[Option.bind_eq_some_iff]at h
     obtain⟨v,hv,h⟩:=h
     split at h
     ·cases h
      show(v.2.vars.set _ _)[i]?=_
      rw[List.getElem?_set,if_neg (fun e=>hk (.inl h1) e.symm),(yg c n _ _ _ hv).v]
     ·cases h
    split at h
    ·simp only[Option.bind_eq_some_iff,Option.some.injEq]at h
     obtain⟨q,h1,v,h2,a,_,rfl⟩:=h
     have a:=(yg c n _ _ _ h1).trans ((yg c n _ _ _ h2).trans ((zdt a.len q.1 v.2).trans (zV ⟨28,ixS (c.arrays.map (·.name)) x.name,[(zaL a.len q.1 v.2).state,q.1,v.1]⟩ _)))
     show(Bd.vars _)[i]?=_
     rw[a.v]
    split at h
    ·simp only[Option.bind_eq_some_iff,Option.some.injEq]at h
     obtain⟨q,h1,a,h2,b,h3,m,h4,rfl⟩:=h
     have e1:=(yg c n _ _ _ h1).v
     have e2:=I2 _ _ _ h2 i ht
     have e3:b.vars[i]?=q.2.vars[i]?:=I2 _ _ _ h3 i he
     have e4:=zn5 _ _ _ _ _ _ h4 i (by rw[e2,e3])
     show(zt q.1 a.state m.state m).2.vars[i]?=_
     rw[(yf _ _ _ _).v,e4,e3,e1]
    split at h
    ·exact I3 _ _ _ h i ht
    split at h
    ·simp only[Option.bind_eq_some_iff,Option.some.injEq]at h
     obtain⟨v,h1,rfl⟩:=h
     have a:=(yg c n _ _ _ h1).trans (zV ⟨29,0,[v.2.state,v.1]⟩ v.2)
     show(Bd.vars _)[i]?=_
     rw[a.v]
    split at h
    ·rename_i h6
     simp only[Option.bind_eq_some_iff]at h
     obtain⟨av,h1,h⟩:=h
     split at h
     ·cases h
      show(List.set _ _ _)[i]?=_
      rw[List.getElem?_set,if_neg (fun e=>hk (.inr h6) e.symm)]
      exact congrArg (·[i]?) (zdu c n _ _ _ h1).1.v
     ·cases h
    split at h
    ·cases h
     have a:=(zV ⟨1,0,[]⟩ s).trans (za7 (w64 (16+x.n)) (zm ⟨1,0,[]⟩ s).1 _)
     rw[a.v]
    ·cases h;rfl
   ·unfold zav at h
    cases l with
    | nil=>cases h;rfl
    | cons x l=>
      simp only[Option.bind_eq_some_iff]at h
      obtain⟨q,h1,h2⟩:=h
      obtain⟨a1,a2,a3,a4⟩:=hl.cons
      rw[I2 _ _ _ h2 i a4,I1 _ _ _ h1 i a1 a2 a3]
   ·unfold whL at h
    simp only[Option.bind_eq_some_iff,Option.some.injEq]at h
    obtain⟨q,h1,b,hb,t,h2,d,h3,rfl⟩:=h
    obtain⟨m,b0,b1,k1,k2⟩:=ht
    have hbi:=zfK c.names n m _ _ _ _ _ hb k1 i (by rw[List.getD_eq_getElem?_getD,List.getElem?_replicate];split<;>rfl) k2
    rw[zn4 _ _ _ _ _ _ i (zpc hbi)]
    show(zt _ _ _ _).2.vars[i]?=_
    rw[(yf _ _ _ _).v]
    show q.2.vars[i]?=_
    rw[(yg c n _ _ _ h1).v]
theorem wh_out {c:Cx}{n:Nat}{x:St}{b:List Bool}{base:Int}{s t:Bd}{v:List Int}{d:Int×Bd}{k:Nat} (hs:s.vars=v) (h2:zbh c.names n x.thn (List.replicate k false)=some b) (h3:zav c n x.thn (lvL base (yA b) 0 s)=some t) (h4:exL c n x.value t=some d):∀ i,i∉yA b→d.2.vars[i]?=v[i]?:=fun i hi=>by
 rw[(yg c n _ _ _ h4).v,(zn6 c n).2.1 _ _ _ h3 i ⟨n,_,_,h2,zpd hi⟩,zn3 _ _ _ _ i hi,hs]
def srt (l:List Nd) (n:Nd):Int:=match zbJ l.length (jN l l.length) n.kids with
 | none=>0
 | some s=>if yR n.op s&&zbb l n then zdE n s else 0
theorem zqU {op:Int}{s:List Int} (h:yR op s=true) (e:op=25):s.length=1:=by
 subst e
 unfold yR at h
 have:arI 25=(1,true):=by decide
 rw[this]at h
 simp only[Bool.true_eq_false,if_false]at h
 split at h
 ·cases h
 ·omega
theorem zjx (l:List Nd) (n:Nd):zaI (l++[n]) l.length=srt l n:=by
 rw[zd1 (by simp)]
 have ht:(l++[n]).take l.length=l:=List.take_left
 have hs:jN (l++[n]) l.length=jN l l.length:=by
  have:=zd0 (l:=l++[n]) (m:=l.length) (i:=l.length) (Nat.le_refl _)
  rw[ht]at this;exact this.symm
 have hn:(l++[n])[l.length]?=some n:=by rw[List.getElem?_append_right (Nat.le_refl _),Nat.sub_self];rfl
 unfold zeK srt
 rw[hs,hn]
 simp only
 cases hk:zbJ l.length (jN l l.length) n.kids with
 | none=>rfl
 | some s=>
   simp only
   by_cases c:yR n.op s=true
   ·have e:zbb l n=zbb (l++[n]) n:=by
     have:=zjj (l:=l++[n]) (m:=l.length) (n:=n) fun h25=>by
      have hl:=zgj hk
      have h1:=zqU c h25
      cases hq:n.kids with
      | nil=>rw[hq,h1]at hl;simp at hl
      | cons k ks=>
        refine⟨k,ks,rfl,?_⟩
        have:=zcY hk k (by rw[hq];exact List.mem_cons_self)
        omega
     rw[ht]at this;exact this
    rw[e]
   ·have c':yR n.op s=false:=by simpa using c
    rw[c',Bool.false_and,Bool.false_and]
theorem zjy {l:List Nd}:∀ {ks:List Int},(∀ k∈ks,0≤k∧k < l.length∧zaI l k≠0)→zbJ l.length (jN l l.length) ks=some (ks.map (zaI l))
 | [],_=>rfl
 | k::ks,h=>by
   obtain⟨h1,h2,h3⟩:=h k List.mem_cons_self
   obtain⟨k,rfl⟩:=Int.eq_ofNat_of_zero_le h1
   have e:=zel (l:=l) (i:=l.length) (j:=k) (by omega) (Nat.le_refl _)
   rw[zbJ,Int.toNat_natCast,e,if_neg (by omega),zjy fun q hq=>h q (List.mem_cons_of_mem _ hq)];rfl
theorem zaX {l:List Nd}{n:Nd} (h:∀ k∈n.kids,0≤k∧k < l.length∧zaI l k≠0):srt l n=if yR n.op (n.kids.map (zaI l))&&zbb l n then zdE n (n.kids.map (zaI l))else 0:=by
 unfold srt
 rw[zjy h]
structure IsT (l:List Nd) (t:Int) (k:Int):Prop where
 lo:0≤k
 hi:k < l.length
 s:zaI l k=t
theorem IsT.le {l l':List Nd}{t k:Int} (h:IsT l t k) (hl:l<+:l'):IsT l' t k:=by
 obtain⟨m,rfl⟩:=hl
 obtain⟨h1,h2,h3⟩:=h
 obtain⟨k,rfl⟩:=Int.eq_ofNat_of_zero_le h1
 exact⟨h1,by rw[List.length_append];omega,by rw[zjk (by omega)];exact h3⟩
section
variable {l:List Nd}
theorem zpe (n:Int):srt l ⟨1,n,[]⟩=1:=by
 rw[zaX (by simp)];simp[yR,arI,zfG,jm,zbb,zdE]
theorem zpf {n:Int} (h0:0≤n) (h1:n≤5):srt l ⟨2,n,[]⟩=1:=by
 rw[zaX (by simp)];simp[yR,arI,zfG,jm,zbb,zbo,zdE,h0,h1]
theorem zqV {n:Int} (h0:0≤n) (h1:n≤255):srt l ⟨3,n,[]⟩=if n.tmod 16=0 then 2 else 1:=by
 rw[zaX (by simp)];simp[yR,arI,zfG,jm,zbb,zbo,zdE,h0,h1]
theorem zpg:srt l ⟨26,0,[]⟩=2:=by
 rw[zaX (by simp)];simp[yR,arI,zfG,jm,zbb,zbo,zdE]
theorem zuI {op a b:Int} (ha:IsT l 1 a) (hb:IsT l 1 b) (h0:4≤op) (h1:op≤19):srt l ⟨op,0,[a,b]⟩=1:=by
 have q:∀ k:Int,(k < 4∨19 < k)→¬ op=k:=fun k hk e=>by omega
 have har:arI op=(2,true):=by
  unfold arI
  rw[if_neg (by omega),if_neg (by omega),if_neg (by omega),if_neg (by omega),if_neg (by omega),if_pos ⟨h0,h1⟩]
 rw[zaX (fun k hk=>by
  simp only[List.mem_cons,List.not_mem_nil,or_false]at hk
  rcases hk with rfl|rfl
  ·exact⟨ha.lo,ha.hi,by rw[ha.s];decide⟩
  ·exact⟨hb.lo,hb.hi,by rw[hb.s];decide⟩)]
 simp only[List.map_cons,List.map_nil,ha.s,hb.s]
 have v:yR op [1,1]=true:=by
  unfold yR
  rw[har,if_neg (by simp),if_neg (by simp),if_neg (q 31 (by omega)),if_neg (q 30 (by omega)),if_neg (fun h=>q 22 (by omega) h.1)]
  unfold zfG
  rw[if_neg (q 22 (by omega)),if_neg (by have:=q 23 (by omega);have:=q 27 (by omega);have:=q 29 (by omega);omega),if_neg (q 28 (by omega)),if_neg (q 24 (by omega)),if_neg (q 25 (by omega))];rfl
 have i:zbb l ⟨op,0,[a,b]⟩=true:=by
  unfold zbb zbo
  simp only[]
  rw[if_neg (q 1 (by omega)),if_neg (q 27 (by omega)),if_neg (q 2 (by omega)),if_neg (q 3 (by omega)),if_neg (by have:=q 23 (by omega);have:=q 28 (by omega);omega),if_neg (q 30 (by omega)),if_neg (q 31 (by omega)),if_neg (q 25 (by omega))];rfl
 rw[v,i]
 simp only[Bool.and_self,if_true]
 unfold zdE
 simp only[]
 rw[if_neg (q 31 (by omega)),if_neg (by omega),if_neg (q 22 (by omega)),if_neg (fun h=>q 3 (by omega) h.1),if_neg (fun h=>q 25 (by omega) h.1)]
theorem srt_un {op a:Int} (ha:IsT l 1 a) (h0:op=20∨op=21):srt l ⟨op,0,[a]⟩=1:=by
 rw[zaX (fun k hk=>by
  simp only[List.mem_cons,List.not_mem_nil,or_false]at hk
  subst hk
  exact⟨ha.lo,ha.hi,by rw[ha.s];decide⟩)]
 simp only[List.map_cons,List.map_nil,ha.s]
 rcases h0 with rfl|rfl<;>simp[yR,arI,zfG,jm,zbb,zbo,zdE]
theorem zuJ {t c a b:Int} (hc:IsT l 1 c) (ha:IsT l t a) (hb:IsT l t b) (ht:t=1∨t=2):srt l ⟨22,0,[c,a,b]⟩=t:=by
 rw[zaX (fun k hk=>by
  simp only[List.mem_cons,List.not_mem_nil,or_false]at hk
  rcases hk with rfl|rfl|rfl
  ·exact⟨hc.lo,hc.hi,by rw[hc.s];decide⟩
  ·exact⟨ha.lo,ha.hi,by rw[ha.s];omega⟩
  ·exact⟨hb.lo,hb.hi,by rw[hb.s];omega⟩)]
 simp only[List.map_cons,List.map_nil,ha.s,hb.s,hc.s]
 rcases ht with rfl|rfl<;>simp[yR,arI,zfG,jm,zbb,zbo,zdE]
theorem zmZ {x y a b:Int} (hx:x≠0) (hy:y≠0) (ha:IsT l x a) (hb:IsT l y b):∀ k∈[a,b],0≤k∧k < l.length∧zaI l k≠0:=fun k hk=>by
 simp only[List.mem_cons,List.not_mem_nil,or_false]at hk
 rcases hk with rfl|rfl
 ·exact⟨ha.lo,ha.hi,by rw[ha.s];exact hx⟩
 ·exact⟨hb.lo,hb.hi,by rw[hb.s];exact hy⟩
theorem zqW {n s a:Int} (hs:IsT l 2 s) (ha:IsT l 1 a) (h0:0≤n) (h1:n≤3):srt l ⟨23,n,[s,a]⟩=1:=by
 rw[zaX (zmZ (by decide) (by decide) hs ha)]
 simp[hs.s,ha.s,yR,arI,zfG,jm,zbb,zbo,zdE,h0,h1]
theorem zph {n s a:Int} (hs:IsT l 2 s) (ha:IsT l 1 a) (h0:1≤n) (h1:n≤1000016):srt l ⟨27,n,[s,a]⟩=2:=by
 rw[zaX (zmZ (by decide) (by decide) hs ha)]
 simp[hs.s,ha.s,yR,arI,zfG,jm,zbb,zbo,zdE,h0,h1]
theorem zuK {s a:Int} (hs:IsT l 2 s) (ha:IsT l 1 a):srt l ⟨29,0,[s,a]⟩=2:=by
 rw[zaX (zmZ (by decide) (by decide) hs ha)]
 simp[hs.s,ha.s,yR,arI,zfG,jm,zbb,zbo,zdE]
theorem zpi {n s a b:Int} (hs:IsT l 2 s) (ha:IsT l 1 a) (hb:IsT l 1 b) (h0:0≤n) (h1:n≤3):srt l ⟨28,n,[s,a,b]⟩=2:=by
 rw[zaX (fun k hk=>by
  simp only[List.mem_cons,List.not_mem_nil,or_false]at hk
  rcases hk with rfl|rfl|rfl
  ·exact⟨hs.lo,hs.hi,by rw[hs.s];decide⟩
  ·exact⟨ha.lo,ha.hi,by rw[ha.s];decide⟩
  ·exact⟨hb.lo,hb.hi,by rw[hb.s];decide⟩)]
 simp[hs.s,ha.s,hb.s,yR,arI,zfG,jm,zbb,zbo,zdE,h0,h1]
theorem srt_cr {s:Int} (hs:IsT l 2 s):srt l ⟨24,0,[s]⟩=1:=by
 rw[zaX (fun k hk=>by
  simp only[List.mem_cons,List.not_mem_nil,or_false]at hk
  subst hk
  exact⟨hs.lo,hs.hi,by rw[hs.s];decide⟩)]
 simp[hs.s,yR,arI,zfG,jm,zbb,zbo,zdE]
theorem zfL:∀ {av:List Int},(∀ a∈av,IsT l 1 a)→av.map (zaI l)=List.replicate av.length 1
 | [],_=>rfl
 | a::av,h=>by
   rw[List.map_cons,(h a List.mem_cons_self).s,zfL fun x hx=>h x (List.mem_cons_of_mem _ hx)];rfl
theorem zqX {n s:Int}{av:List Int} (hs:IsT l 2 s) (ha:∀ a∈av,IsT l 1 a) (hl:av.length≤6) (h0:0≤n) (h1:n≤7):srt l ⟨30,n,s::av⟩=2:=by
 rw[zaX (fun k hk=>by
  rcases List.mem_cons.1 hk with rfl|hk
  ·exact⟨hs.lo,hs.hi,by rw[hs.s];decide⟩
  ·exact⟨(ha k hk).lo,(ha k hk).hi,by rw[(ha k hk).s];decide⟩)]
 simp only[List.map_cons,hs.s,zfL ha]
 have v:yR 30 (2::List.replicate av.length 1)=true:=by
  have a:arI 30=(-1,true):=by decide
  unfold yR
  rw[a]
  simp only[Bool.true_eq_false,if_false]
  rw[if_neg (by omega),if_neg (by omega),if_pos trivial]
  simp only[List.length_cons,List.length_replicate,List.headD_cons,List.tail_cons,Bool.and_eq_true,decide_eq_true_eq]
  refine⟨⟨⟨by omega,by omega⟩,trivial⟩,?_⟩
  rw[List.all_eq_true]
  intro x hx
  rw[List.eq_of_mem_replicate hx];rfl
 have i:zbb l ⟨30,n,s::av⟩=true:=by simp[zbb,zbo,h0,h1]
 rw[v,i]
 simp[zdE]
theorem zqY {n s d st:Int}{av bs:List Int} (hs:IsT l 2 s) (ha:∀ a∈av,IsT l 1 a) (hd:IsT l 1 d) (hst:IsT l 2 st) (hb:∀ a∈bs,IsT l 1 a) (hl:av.length=bs.length) (hl2:av.length≤15) (h0:0≤n) (h1:n≤15):srt l ⟨31,n,s::av++[d,st]++bs⟩=3:=by
 rw[zaX (fun k hk=>by
  simp only[List.mem_append,List.mem_cons,List.not_mem_nil,or_false]at hk
  rcases hk with ((rfl|hk)|rfl|rfl)|hk
  ·exact⟨hs.lo,hs.hi,by rw[hs.s];decide⟩
  ·exact⟨(ha k hk).lo,(ha k hk).hi,by rw[(ha k hk).s];decide⟩
  ·exact⟨hd.lo,hd.hi,by rw[hd.s];decide⟩
  ·exact⟨hst.lo,hst.hi,by rw[hst.s];decide⟩
  ·exact⟨(hb k hk).lo,(hb k hk).hi,by rw[(hb k hk).s];decide⟩)]
 have hm:(s::av++[d,st]++bs).map (zaI l)=2::(List.replicate av.length 1++1::2::List.replicate av.length 1):=by
  simp only[List.map_append,List.map_cons,List.map_nil,hs.s,hd.s,hst.s,zfL ha,zfL hb,hl]
  simp
 simp only[]
 rw[hm]
 generalize hn:av.length=m at *
 have hlen:(2::(List.replicate m (1:Int)++1::2::List.replicate m 1)).length=2 * m+3:=by simp;omega
 have v:yR 31 (2::(List.replicate m 1++1::2::List.replicate m 1))=true:=by
  have a:arI 31=(-1,true):=by decide
  unfold yR
  rw[a]
  simp only[Bool.true_eq_false,if_false]
  rw[if_neg (by omega),if_pos trivial]
  have hml:=zmN (2::(List.replicate m (1:Int)++1::2::List.replicate m 1)) (by omega) (by omega)
  have e1:(2 * m+3) / 2=m+1:=by omega
  rw[hlen]at hml ⊢
  rw[hml,e1]
  have hones:∀ k,zmL (List.replicate k (1:Int))=true:=fun k=>by
   rw[zmL,List.all_eq_true]
   intro x hx
   rw[List.eq_of_mem_replicate hx];rfl
  have h1:((2::(List.replicate m (1:Int)++1::2::List.replicate m 1)).drop 1).take (m+1)=List.replicate (m+1) 1:=by
   rw[List.drop_succ_cons,List.drop_zero,List.take_append,List.length_replicate,List.take_of_length_le (by simp),show m+1 - m=1 by omega]
   rw[List.replicate_succ'];rfl
  have h2:(2::(List.replicate m (1:Int)++1::2::List.replicate m 1)).getD (m+1+1) 0=2:=by
   rw[List.getD_cons_succ,List.getD_eq_getElem?_getD,List.getElem?_append_right (by simp),List.length_replicate,show m+1 - m=1 by omega];rfl
  have h3:(2::(List.replicate m (1:Int)++1::2::List.replicate m 1)).drop (m+1+2)=List.replicate m 1:=by
   rw[List.drop_succ_cons,List.drop_append,List.length_replicate,List.drop_of_length_le (by simp),List.nil_append,show m+1+1 - m=2 by omega];rfl
  rw[h1,h2,h3,hones,hones]
  have e4:lvI (((2 * m+3:Nat):Nat):Int)≤16:=by rw[zmM _ (by omega)];omega
  simp only[List.headD_cons,Bool.and_eq_true,decide_eq_true_eq]
  refine⟨⟨⟨by omega,by omega⟩,e4⟩,⟨⟨⟨trivial,trivial⟩,trivial⟩,trivial⟩⟩
 have i:zbb l ⟨31,n,s::av++[d,st]++bs⟩=true:=by simp[zbb,zbo,h0,h1]
 rw[v,i]
 simp[zdE]
theorem zqZ {n k:Int}{q:Nd} (hk:IsT l 3 k) (hq:l[k.toNat]?=some q) (h0:0≤n) (h1:n < lvI q.kids.length):srt l ⟨25,n,[k]⟩=if n=0 then 2 else 1:=by
 rw[zaX (fun j hj=>by
  simp only[List.mem_cons,List.not_mem_nil,or_false]at hj
  subst hj
  exact⟨hk.lo,hk.hi,by rw[hk.s];decide⟩)]
 have i:zbb l ⟨25,n,[k]⟩=true:=by
  have:zj7 l k=q.kids.length:=by rw[zj7,hq]
  simp[zbb,zbo,this,h0];omega
 simp only[List.map_cons,List.map_nil,hk.s]
 rw[i]
 by_cases c:n=0<;>simp[yR,arI,zfG,jm,zdE,c]
end
def Wf (l:List Nd):Prop:=∀ i:Nat,i < l.length→zaI l i≠0
theorem ziA {l:List Nd}{i:Nat} (hi:i≤l.length):∀ {ks s:List Int},zbJ i (jN l i) ks=some s→zbJ l.length (jN l l.length) ks=some s
 | [],s,h=>by cases h;rfl
 | k::ks,s,h=>by
   rw[zbJ]at h
   split at h
   ·cases h
   ·rename_i c
    obtain⟨t,ht,rfl⟩:=Option.map_eq_some_iff.1 h
    obtain⟨k,rfl⟩:=Int.eq_ofNat_of_zero_le (by omega:0≤k)
    rw[Int.toNat_natCast]at c
    have e1:=zel (l:=l) (i:=i) (j:=k) (by omega) hi
    have e2:=zel (l:=l) (i:=l.length) (j:=k) (by omega) (Nat.le_refl _)
    rw[zbJ,Int.toNat_natCast,e2,if_neg (by rw[e1]at c;omega),ziA hi ht]
    simp only[Option.map_some,Int.toNat_natCast,e1]
theorem zq0 {l:List Nd}{i:Nat}{n:Nd} (hn:l[i]?=some n) (h:zaI l i≠0):zaI l i=srt l n:=by
 have hi:i < l.length:=by
  by_cases c:i < l.length
  ·exact c
  ·rw[List.getElem?_eq_none (by omega)]at hn;cases hn
 rw[zd1 hi]at h ⊢
 unfold zeK at h ⊢
 unfold srt
 rw[hn]at h ⊢
 simp only at h ⊢
 cases hk:zbJ i (jN l i) n.kids with
 | none=>rw[hk]at h;exact absurd rfl h
 | some s=>rw[ziA (by omega) hk]
theorem zlE {l:List Nd}{n:Nd}{t:Int} (hw:Wf l) (h:srt l n=t) (ht:t≠0):IsT (zaA l n) t (zbl l n)∧Wf (zaA l n):=by
 unfold zaA
 split
 ·rename_i c
  have hg:=zlC c
  refine⟨⟨by omega,by omega,?_⟩,hw⟩
  rw[zq0 hg (hw _ c)];exact h
 ·rename_i c
  have:=zhq l n
  have e:zbl l n=l.length:=by omega
  rw[e]
  refine⟨⟨by omega,by rw[List.length_append];simp;omega,?_⟩,fun i hi=>?_⟩
  ·rw[zjx];exact h
  ·rw[List.length_append,List.length_singleton]at hi
   by_cases q:i < l.length
   ·rw[zjk q];exact hw i q
   ·obtain rfl:i=l.length:=by omega
    rw[zjx,h];exact ht
def jH (n:Int):Prop:=-9223372036854775808≤n∧n < 9223372036854775808
mutual
def rgE:Ex→Prop
 | .mk _ n _ _ ks=>jH n∧zbm ks
def zbm:List Ex→Prop
 | []=>True
 | e::es=>rgE e∧zbm es
end
theorem zq1 (x:Ex):rgE x↔jH x.n∧zbm x.kids:=by cases x;rw[rgE];rfl
mutual
def rg1:St→Prop
 | .mk _ _ _ _ a v args th el=>rgE a∧rgE v∧zbm args∧rgS th∧rgS el
def rgS:List St→Prop
 | []=>True
 | x::l=>rg1 x∧rgS l
end
theorem zkd (x:St):rg1 x↔rgE x.at_∧rgE x.value∧zbm x.args∧rgS x.thn∧rgS x.els:=by cases x;rw[rg1];rfl
namespace tyG1
def tyF:=And.intro @tq3 (And.intro @tq9 (And.intro @zcc (And.intro @tq2 (And.intro @tq154 (And.intro @zhh (@zhg))))))
end tyG1
open tyG1
noncomputable def code9:{ c:SC // slim 14 (Try.f9.body.getD .skip)=c }:=by
 refine⟨?_,?_⟩
 rotate_left
 ·simp only[Try.f9,Option.getD_some,slim,zZ,zS,z6,z7,Nat.blt,Nat.ble]
  rfl
noncomputable def code57:{ c:SC // slim 25 (Try.f57.body.getD .skip)=c }:=by
 refine⟨?_,?_⟩
 rotate_left
 ·simp only[Try.f57,Option.getD_some,slim,zZ,zS,z6,z7,Nat.blt,Nat.ble]
  rfl
noncomputable def code56:{ c:SC // slim 7 (Try.f56.body.getD .skip)=c }:=by
 refine⟨?_,?_⟩
 rotate_left
 ·simp only[Try.f56,Option.getD_some,slim,zZ,zS,z6,z7,Nat.blt,Nat.ble]
  rfl
def yn (n m:Int):Int:=if n.tmod m < 0 then w64 (n.tmod m+m)else n.tmod m
theorem yy {n m:Int} (h:0 < m) (h2:m < 2 ^ 62):0≤yn n m∧yn n m < m:=by
 unfold yn
 have h3:=Int.tmod_lt_of_pos n h
 have h4:-m < n.tmod m:=by
  have:=Int.tmod_lt_of_pos (-n) h
  rw[Int.neg_tmod]at this
  omega
 split
 ·unfold w64
  rw[IntWalk.i64_in _ (by omega)];omega
 ·omega
def pkE (x:Int×Int):List AV:=[.int .i64 x.1,.int .i64 x.2]
theorem zn7 (x y:Int×Int) (h:pkE x=pkE y):x=y:=by
 simp only[pkE,List.cons.injEq,AV.int.injEq,and_true,true_and]at h
 exact Prod.ext h.1 h.2
theorem zq2 (ρ:Nat→Int) (x:Int×Int) (hx:x.2≠0):Con Try.prog ρ 9 (pkE x) (.int .i64 (yn x.1 x.2)):=jX fit (pls:=pls) (l:=[]) trivial (.cons (.int _ _) (.cons (.int _ _) .nil)) (.int _ _) (by
 have hw:=zab 9
 obtain⟨n,m⟩:=x
 rw[pkE]
 simp only[]at hx ⊢
 refine zj (M:=14) (rs:=[.tmp 4]) (hw.call _) hw.ice hw.froz Try.func9 rfl rfl code9.2 rfl ?_;dsimp only[code9,zO,Nat.reduceAdd]
 repeat' (first
  | (apply Rx.nl ?_;clear hK K)|apply Rx.o ?_|(apply Rx.cd (fun hb hbp=>?_) (fun hb hbp=>?_)<;>try (cases hb;done))|apply Wp.seq ?_|(apply zd fun K hK=>?_)|apply zh ?_|apply Rx.rt ?_)
 all_goals (refine⟨eI,_,eR,?_⟩;try simp only[zp])
 all_goals (simp_all[yn];try omega))
noncomputable def zke:En:=⟨9,false,spP (fun x=>x.2≠0) pkE fun x=>.int .i64 (yn x.1 x.2)⟩
theorem zjz (ρ:Nat→Int):zbI Try.prog ρ zke:=jL fun x hx=>zq2 ρ x hx
theorem zeq {l:List En} (hl:∀ ar,yQ l 9 ar=zke.sp ar) (n m:Int) (hm:m≠0) (H:Hp):zr Try.prog (zK pls l) 9 [.int .i64 n,.int .i64 m] H fun v H'=>v=.int .i64 (yn n m)∧H'=H:=
 yr (enc:=pkE) (ok:=fun x=>x.2≠0) (out:=fun x=>.int .i64 (yn x.1 x.2)) zn7 (x:=(n,m)) (hl _) hm
def zm0:List Int:=[0,1,-1,2,-9223372036854775808,9223372036854775807,4294967296,-2147483648,63,64]
def zeL (n raw:Int):Int:=if yn n 24 < 10 then zm0.getD (yn n 24).toNat 0 else if yn n 24 < 22 then w64 (yn (w64 (n.tdiv 24)) 17 - 6)else raw
theorem bsEd (H:Hp):zI Try.prog H 154 10 [(0,.int .i64 0),(1,.int .i64 1),(2,.int .i64 (-1)),(3,.int .i64 2),(4,.int .i64 (-9223372036854775808)),(5,.int .i64 9223372036854775807),(6,.int .i64 4294967296),(7,.int .i64 (-2147483648)),(8,.int .i64 63),(9,.int .i64 64)]=some (.sl H.next 0 10 1,H.alloc (.cells (zm0.map fun n=>.int .i64 n) 0 true)):=by kernel_rfl
theorem zq3 (ρ:Nat→Int) (x:Int×Int):Con Try.prog ρ 57 (pkE x) (.int .i64 (zeL x.1 x.2)):=jX fit (pls:=pls) (l:=[zke]) ⟨zjz ρ,trivial⟩ (.cons (.int _ _) (.cons (.int _ _) .nil)) (.int _ _) (by
 have hw:Plain (zK pls [zke]) 57:=yJ (fun _=>rfl) rfl
 obtain⟨n,m⟩:=x
 have hr:=yy (n:=n) (m:=24) (by omega) (by omega)
 have hp:0≤yn n 24:=hr.1
 rw[pkE]
 simp only[]
 have hq:(24:Int)≠0:=by decide
 refine zj (M:=25) (rs:=[.tmp 4]) (hw.call _) hw.ice hw.froz Try.func57 rfl rfl code57.2 rfl ?_;dsimp only[code57,zO,Nat.reduceAdd]
 have gh0:=@bsEd
 repeat' (first
  | (apply Rx.nl ?_;clear hK K)|apply Rx.o ?_|(apply Rx.call ?_;first|refine zaF (zeq (fun _=>rfl) _ _ (by decide) _) ?_)|(apply Rx.cd (fun hb hbp=>?_) (fun hb hbp=>?_)<;>try (cases hb;done))|apply Wp.seq ?_|(apply zd fun K hK=>?_)|apply Wp.block ?_|apply zh ?_|apply Rx.rt ?_)
 ·have hlt:(yn n 24).toNat < 10:=by omega
  have hg:zm0[(yn n 24).toNat]?=some (zm0.getD (yn n 24).toNat 0):=by
   rw[List.getD_eq_getElem?_getD,List.getElem?_eq_getElem (by simpa [zm0]using hlt)];rfl
  repeat' (first
   | (apply Rx.nl ?_;clear hK K)|apply Ry.o ?_|apply Wp.seq ?_|(apply zd fun K hK=>?_)|apply Wp.block ?_|apply zh ?_|apply Rx.rt ?_)
  all_goals (refine⟨eI,_,eR,?_⟩;try simp only[zp])
  rw[zeL,if_pos (by assumption)]
 ·all_goals (refine⟨eI,_,eR,?_⟩;try simp only[zp])
  rw[zeL,if_neg (by assumption),if_pos (by assumption)]
 ·all_goals (refine⟨eI,_,eR,?_⟩;try simp only[zp])
  rw[zeL,if_neg (by assumption),if_neg (by assumption)])
noncomputable def zq4:En:=⟨57,false,spP (fun _=>True) pkE fun x=>.int .i64 (zeL x.1 x.2)⟩
theorem zpj (ρ:Nat→Int):zbI Try.prog ρ zq4:=jL fun x hx=>zq3 ρ x
theorem zuL {l:List En} (hl:∀ ar,yQ l 57 ar=zq4.sp ar) (n m:Int) (H:Hp):zr Try.prog (zK pls l) 57 [.int .i64 n,.int .i64 m] H fun v H'=>v=.int .i64 (zeL n m)∧H'=H:=
 yr (enc:=pkE) (ok:=fun _=>True) (out:=fun x=>.int .i64 (zeL x.1 x.2)) zn7 (x:=(n,m)) (hl _) trivial
def yB (f:Int):List (List UInt8):=if f=0 then [[120],[121],[105],[106]]else [[110],[105]]
theorem zbi (f:Int):(yB f).length=4∨(yB f).length=2:=by unfold yB;split<;>simp
theorem nms4 (H:Hp) (a b c d:List UInt8):zI Try.prog H 47 4 [(0,.str a),(1,.str b),(2,.str c),(3,.str d)]=some (.sl H.next 0 4 1,H.alloc (.cells [.str a,.str b,.str c,.str d] 0 true)):=by kernel_rfl
theorem nms2 (H:Hp) (a b:List UInt8):zI Try.prog H 47 2 [(0,.str a),(1,.str b)]=some (.sl H.next 0 2 1,H.alloc (.cells [.str a,.str b] 0 true)):=by kernel_rfl
theorem zpk (ρ:Nat→Int) (f:Int):Con Try.prog ρ 56 [.int .i64 f] (je (yB f)):=zdW (m:=3) (cfg:=zK pls []) fit (zhY ρ) (fun f args r h=>by simp[zK,yQ]at h) (.cons (.int _ _) .nil) (by
 have hw:=zab 56
 refine zj (M:=7) (rs:=[.tmp 2]) (hw.call _) hw.ice hw.froz Try.func56 rfl rfl code56.2 rfl ?_;dsimp only[code56,zO,Nat.reduceAdd]
 have gh0:=@nms4
 have gh1:=@nms2
 repeat' (first
  | (apply Rx.nl ?_;clear hK K)|apply Rx.o ?_|(apply Rx.cd (fun hb hbp=>?_) (fun hb hbp=>?_)<;>try (cases hb;done))|apply Wp.seq ?_|(apply zd fun K hK=>?_)|apply zh ?_|apply Rx.rt ?_)
 ·all_goals (refine⟨eI,_,eR,?_⟩;try simp only[zp])
  rw[yB,if_pos (by assumption)];rfl
 ·all_goals (refine⟨eI,_,eR,?_⟩;try simp only[zp])
  rw[yB,if_neg (by assumption)];rfl)
noncomputable def enNms:En:=⟨56,false,spP (fun _=>True) (fun n:Int=>[.int .i64 n]) fun f=>je (yB f)⟩
theorem zq5 (ρ:Nat→Int):zbI Try.prog ρ enNms:=jL fun x hx=>zpk ρ x
theorem zlF {l:List En} (hl:∀ ar,yQ l 56 ar=enNms.sp ar) (f:Int) (H:Hp):zr Try.prog (zK pls l) 56 [.int .i64 f] H fun v H'=>v=je (yB f)∧H'=H:=
 yr (enc:=fun n:Int=>[.int .i64 n]) (ok:=fun _=>True) (out:=fun f=>je (yB f)) zlu (x:=f) (hl _) trivial
end Go.Proofs.Ytpbcimfiofmoeaa
