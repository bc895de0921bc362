/- Parts: SpecX, SpecY, ChS, ChkX, LwX, G5a, G5b, G5. -/
import Derived.Test.YtpbcimfiofmoeaaSDO
set_option linter.unusedSimpArgs false
set_option linter.unusedVariables false
set_option linter.unusedSectionVars false
set_option linter.defProp false
set_option maxHeartbeats 32000000
namespace Go.Proofs.Ytpbcimfiofmoeaa
set_option maxRecDepth 20000
open Go Go.Ab
def zkq (c:Cx):Sc:=⟨c.names,some (c.arrays.map (·.name)),⟨c.arrays,c.funcs⟩⟩
structure SOk (c:Cx) (x:St):Prop where
 wf:zey x=true
 df:zbz (zkq c) false x=true
 ar:zbz (zkq c) true x=true
 rg:rg1 x
structure SsOk (c:Cx) (l:List St):Prop where
 wf:zaW l=true
 df:jr (zkq c) false l=true
 ar:jr (zkq c) true l=true
 rg:rgS l
section
variable {c:Cx}
theorem SsOk.cons {x:St}{l:List St} (h:SsOk c (x::l)):SOk c x∧SsOk c l:=by
 obtain⟨h1,h2,h3,h4⟩:=h
 rw[zaW,Bool.and_eq_true]at h1
 rw[jr,Bool.and_eq_true]at h2 h3
 rw[rgS]at h4
 exact⟨⟨h1.1,h2.1,h3.1,h4.1⟩,⟨h1.2,h2.2,h3.2,h4.2⟩⟩
theorem SOk.subs {x:St} (h:SOk c x):SsOk c x.thn∧SsOk c x.els:=by
 obtain⟨h1,h2,h3,h4⟩:=h
 rw[zdq]at h1
 rw[zj9]at h2 h3
 rw[zkd]at h4
 simp only[Bool.and_eq_true]at h1 h2 h3
 exact⟨⟨h1.1.2,h2.1.2,h3.1.2,h4.2.2.2.1⟩,⟨h1.2,h2.2,h3.2,h4.2.2.2.2⟩⟩
theorem zlP:∀ {l:List Ex}{x:Ex},zbm l→x∈l→rgE x
 | [],x,_,h=>by simp at h
 | e::l,x,hw,h=>by
   rw[zbm]at hw
   rcases List.mem_cons.1 h with rfl|h
   ·exact hw.1
   ·exact zlP hw.2 h
theorem zlQ:∀ {l:List Ex}{x:Ex},zaJ l=true→x∈l→wfE x=true
 | [],x,_,h=>by simp at h
 | e::l,x,hw,h=>by
   rw[zaJ,Bool.and_eq_true]at hw
   rcases List.mem_cons.1 h with rfl|h
   ·exact hw.1
   ·exact zlQ hw.2 h
theorem zjF {vs an:List Nm}:∀ {l:List Ex}{x:Ex},jR vs an l=true→x∈l→zap vs an x=true
 | [],x,_,h=>by simp at h
 | e::l,x,hw,h=>by
   rw[jR,Bool.and_eq_true]at hw
   rcases List.mem_cons.1 h with rfl|h
   ·exact hw.1
   ·exact zjF hw.2 h
theorem SOk.def {x:St} (h:SOk c x):jR c.names (c.arrays.map (·.name)) x.args=true∧zap c.names (c.arrays.map (·.name)) x.at_=true∧zap c.names (c.arrays.map (·.name)) x.value=true∧zal (zkq c) x=true:=by
 have h2:=h.df
 rw[zj9]at h2
 simp only[Bool.and_eq_true,cond_false,zcf]at h2
 exact⟨h2.1.1.1.1.1,h2.1.1.1.1.2,h2.1.1.1.2,h2.1.1.2⟩
theorem SOk.args {x:St} (h:SOk c x):∀ a∈x.args,XOk c a:=fun a ha=>by
 have h1:=h.wf
 have h4:=h.rg
 rw[zdq,zbg]at h1
 rw[zkd]at h4
 simp only[Bool.and_eq_true]at h1
 exact⟨zlQ h1.1.1.1 ha,zjF h.def.1 ha,zlP h4.2.2.1 ha⟩
theorem SOk.value {x:St} (h:SOk c x) (hk:x.kind=1∨x.kind=2∨x.kind=3∨x.kind=4∨x.kind=5):XOk c x.value:=by
 have h1:=h.wf
 have h4:=h.rg
 rw[zdq,zbg,zbQ]at h1
 rw[zkd]at h4
 simp only[Bool.and_eq_true]at h1
 refine⟨?_,h.def.2.2.1,h4.2.1⟩
 have h3:=h1.1.1.2
 rcases hk with e|e|e|e|e<;>rw[e]at h3<;>simp at h3<;>simp[h3]
theorem SOk.at_ {x:St} (h:SOk c x) (hk:x.kind=2):XOk c x.at_:=by
 have h1:=h.wf
 have h4:=h.rg
 rw[zdq,zbg,zbQ]at h1
 rw[zkd]at h4
 simp only[Bool.and_eq_true]at h1
 refine⟨?_,h.def.2.1,h4.1⟩
 have h3:=h1.1.1.2
 rw[hk]at h3;simp at h3;simp[h3]
theorem SOk.trap {x:St} (h:SOk c x) (hk:x.kind=7):0≤x.n∧x.n≤1000000:=by
 have h1:=h.wf
 rw[zdq,zbg,zbQ]at h1
 simp only[Bool.and_eq_true]at h1
 have h3:=h1.1.1.2
 rw[hk]at h3;simp at h3;exact⟨by simp[h3],by simp[h3]⟩
theorem SOk.kd {x:St} (h:SOk c x):1≤x.kind∧x.kind≤7:=by
 have h1:=h.wf
 rw[zdq,zbg,zbQ]at h1
 simp only[Bool.and_eq_true]at h1
 have h3:=h1.1.1.2
 by_cases e:1≤x.kind∧x.kind≤7
 ·exact e
 ·rw[if_neg (by omega),if_neg (by omega),if_neg (by omega),if_neg (by omega),if_neg (by omega),if_neg (by omega),if_neg (by omega)]at h3
  cases h3
theorem SOk.name {x:St} (h:SOk c x) (hk:x.kind=1∨x.kind=6):ixS c.names x.name < c.names.length:=by
 have:=h.def.2.2.2
 rw[zal]at this
 rcases hk with e|e<;>simp[e,zkq]at this
 ·exact zgw this
 ·exact zgw this.1
theorem SOk.arr {x:St} (h:SOk c x) (hk:x.kind=2):ixS (c.arrays.map (·.name)) x.name < c.arrays.length:=by
 have:=h.def.2.2.2
 rw[zal]at this
 simp[hk,zkq,Sc.an]at this
 have:=zgw this
 rwa [List.length_map]at this
theorem SOk.call {x:St} (h:SOk c x) (hk:x.kind=6):0≤yw c.funcs x.to 0∧x.args.length=zi6 ⟨c.arrays,c.funcs⟩ x.to:=by
 have h1:=h.def.2.2.2
 have h3:=h.ar
 rw[zal]at h1
 simp[hk,zkq]at h1
 rw[zj9]at h3
 simp only[Bool.and_eq_true,cond_true,arK,hk]at h3
 simp[zkq]at h3
 have h5:=of_decide_eq_true h3.1.1
 exact⟨of_decide_eq_true h1.2,by omega⟩
end
theorem zhu {c:Cx}:∀ (n:Nat) (l:List St) (b:List Bool),SsOk c l→2 * zu l < n→b.length=c.names.length→∃ b',zbh c.names n l b=some b'∧b'.length=c.names.length
 | 0,l,b,_,h,_=>by omega
 | n+1,[],b,_,_,hb=>⟨b,rfl,hb⟩
 | n+1,x::l,b,hl,h,hb=>by
   obtain⟨hx,hl⟩:=hl.cons
   rw[zu]at h
   have hs:=x.sz_eq
   unfold zbh
   simp only
   rw[if_neg (fun q=>by have:=hx.name q.1;omega)]
   have hb1:(if x.kind=1∨x.kind=6 then b.set (ixS c.names x.name) true else b).length=c.names.length:=by split<;>simp[hb]
   obtain⟨b2,e2,l2⟩:=zhu n x.thn _ hx.subs.1 (by omega) hb1
   obtain⟨b3,e3,l3⟩:=zhu n x.els b2 hx.subs.2 (by omega) l2
   obtain⟨b4,e4,l4⟩:=zhu n l b3 hl (by omega) l3
   exact⟨b4,by rw[e2,Option.bind_some,e3,Option.bind_some,e4],l4⟩
theorem zrA {c:Cx}{np:Nat}{k:Int}{a:List Int}:∀ (m i:Nat) (s:Bd),LI c np s→IsT s.l 1 k→(∀ y∈a,IsT s.l 1 y)→a.length=c.names.length→i+m=c.names.length→∃ r,mvL k a m i s=some r∧LI c np r∧r.l.length≤s.l.length+m
 | 0,i,s,h,_,_,_,_=>⟨s,rfl,h,Nat.le_refl _⟩
 | m+1,i,s,h,hk,ha,hl,hi=>by
   have hvl:=h.vl
   have h1:i < a.length:=by omega
   have h2:i < s.vars.length:=by omega
   unfold mvL
   rw[List.getElem?_eq_getElem h1,Option.bind_some,List.getElem?_eq_getElem h2,Option.bind_some]
   obtain⟨m1,m2,m3⟩:=zbW h hk (ha _ (List.getElem_mem h1)) (h.v _ (List.getElem_mem h2)) (.inl rfl)
   have lv:=yf k a[i] s.vars[i] s
   obtain⟨r,e,r1,r2⟩:=zrA m (i+1) { (zt k a[i] s.vars[i] s).2 with vars:=(zt k a[i] s.vars[i] s).2.vars.set i (zt k a[i] s.vars[i] s).1 } (m1.setV (fun y hy=>by
    rcases List.mem_or_eq_of_mem_set hy with hy|rfl
    ·exact m1.v y hy
    ·exact m2) (by rw[List.length_set];exact m1.vl)) (hk.le lv.le.l) (fun y hy=>(ha y hy).le lv.le.l) hl (by omega)
   exact⟨r,e,r1,by simp only at r2;omega⟩
theorem zrB {c:Cx}{np:Nat}{k:Nat} (hk:k≤15):∀ (ws:List Nat) (j:Nat) (s:Bd),LI c np s→j+ws.length≤15→LI c np (lvL (16 * (k:Int)+1) ws j s)∧(lvL (16 * (k:Int)+1) ws j s).l.length≤s.l.length+ws.length
 | [],j,s,h,_=>⟨h,Nat.le_refl _⟩
 | w::ws,j,s,h,hj=>by
   rw[List.length_cons]at hj
   have hm:(16 * (k:Int)+1+j).tmod 16=1+j:=by
    rw[Int.tmod_eq_emod_of_nonneg (by omega)];omega
   obtain⟨m1,m2,m3⟩:=jY h (n:=⟨3,16 * (k:Int)+1+j,[]⟩) (zqV (by omega) (by omega)) (by split<;>decide) (zgu _ _ (by decide) (by unfold jH;omega) (by simp) (by decide) (by decide) (by decide) (by decide))
   rw[hm,if_neg (by omega)]at m2
   unfold lvL
   obtain⟨r1,r2⟩:=zrB hk ws (j+1) { (zm ⟨3,16 * (k:Int)+1+j,[]⟩ s).2 with vars:=(zm ⟨3,16 * (k:Int)+1+j,[]⟩ s).2.vars.set w (zm ⟨3,16 * (k:Int)+1+j,[]⟩ s).1 } (m1.setV (fun y hy=>by
    rcases List.mem_or_eq_of_mem_set hy with hy|rfl
    ·exact m1.v y hy
    ·exact m2) (by rw[List.length_set];exact m1.vl)) (by omega)
   exact⟨r1,by rw[List.length_cons];simp only at r2 ⊢;omega⟩
theorem zrC {c:Cx}{np:Nat}{lp k:Int}{old:List Int}{q:Nd}:∀ (ws:List Nat) (j:Nat) (s:Bd),LI c np s→IsT s.l 3 lp→s.l[lp.toNat]?=some q→IsT s.l 1 k→(∀ y∈old,IsT s.l 1 y)→(∀ w∈ws,w < old.length)→1≤j→((j+ws.length:Nat):Int)≤lvI q.kids.length→j+ws.length≤16 →
 LI c np (lrL lp k old ws j s)∧(lrL lp k old ws j s).l.length≤s.l.length+2 * ws.length
 | [],j,s,h,_,_,_,_,_,_,_,_=>⟨h,Nat.le_refl _⟩
 | w::ws,j,s,h,hlp,hq,hk,ho,hw,hj,hlv,h16=>by
   rw[List.length_cons]at hlv h16
   obtain⟨m1,m2,m3⟩:=jY h (n:=⟨25,j,[lp]⟩) (zqZ hlp hq (by omega) (by omega)) (by split<;>decide) (zgu _ _ (by decide) (by unfold jH;omega) (by simp) (by decide) (by decide) (by decide) (by decide))
   rw[if_neg (by omega)]at m2
   have p1:=zV ⟨25,j,[lp]⟩ s
   have hwo:=hw w List.mem_cons_self
   have how:old.getD w 0∈old:=by rw[List.getD_eq_getElem?_getD,List.getElem?_eq_getElem hwo];exact List.getElem_mem hwo
   obtain⟨n1,n2,n3⟩:=zbW m1 (hk.le p1.le.l) m2 ((ho _ how).le p1.le.l) (.inl rfl)
   have p2:=p1.trans (yf k (zm ⟨25,j,[lp]⟩ s).1 (old.getD w 0) (zm ⟨25,j,[lp]⟩ s).2)
   unfold lrL
   simp only[]
   generalize zt k (zm ⟨25,j,[lp]⟩ s).1 (old.getD w 0) (zm ⟨25,j,[lp]⟩ s).2=z at *
   have hq2:z.2.l[lp.toNat]?=some q:=by
    obtain⟨t,ht⟩:=p2.le.l
    rw[← ht,List.getElem?_append_left,hq]
    have:=hlp.hi;have:=hlp.lo;omega
   obtain⟨r1,r2⟩:=zrC (q:=q) (lp:=lp) (k:=k) (old:=old) ws (j+1) { z.2 with vars:=z.2.vars.set w z.1 } (n1.setV (fun y hy=>by
    rcases List.mem_or_eq_of_mem_set hy with hy|rfl
    ·exact n1.v y hy
    ·exact n2) (by rw[List.length_set];exact n1.vl)) (hlp.le p2.le.l) hq2 (hk.le p2.le.l) (fun y hy=>(ho y hy).le p2.le.l) (fun y hy=>hw y (List.mem_cons_of_mem _ hy)) (by omega) (by omega) (by omega)
   exact⟨r1,by rw[List.length_cons];simp only at r2 ⊢;omega⟩
theorem zjG (b:List Bool):(yA b).length≤b.length:=by
 have:=List.length_filter_le (fun i=>b.getD i false) (List.range b.length)
 rwa [List.length_range]at this
def zng (c:Cx) (np n:Nat):Prop:=∀ x s,SOk c x→2 * x.sz < n→LI c np s→s.loops+w1 x≤16→∃ r,stL c n x s=some r∧LI c np r∧r.loops≤s.loops+w1 x∧r.l.length≤s.l.length+64 * x.sz
def ziO (c:Cx) (np n:Nat):Prop:=∀ l s,SsOk c l→2 * zu l < n→LI c np s→s.loops+wS l≤16→∃ r,zav c n l s=some r∧LI c np r∧r.loops≤s.loops+wS l∧r.l.length≤s.l.length+64 * zu l
def znh (c:Cx) (np n:Nat):Prop:=∀ x s,SOk c x→x.kind=4→2 * x.sz≤n→LI c np s→s.loops+w1 x≤16→∃ r,whL c n x s=some r∧LI c np r∧r.loops≤s.loops+w1 x∧r.l.length≤s.l.length+64 * x.sz
theorem zvt {c:Cx} (hc:CxOkU c) {np n:Nat} (IS:ziO c np n):znh c np (n+1):=fun x s hx hk hsz h hw=>by
 have hs:=x.sz_eq
 have hw1:=zqD x
 rw[if_pos hk]at hw1
 have hv:=hx.value (.inr (.inr (.inr (.inl hk))))
 unfold whL
 obtain⟨r,hr,p1,p2,p3⟩:=zcK hc n x.value { s with loops:=s.loops+1 } hv (by omega) (h.setN _)
 have lr:=yg c n _ _ _ hr
 have hrn:r.2.loops=s.loops+1:=lr.n
 obtain⟨b,hb,hbl⟩:=zhu n x.thn (List.replicate r.2.vars.length false) hx.subs.1 (by omega) (by rw[List.length_replicate];exact p1.vl)
 rw[hr,Option.bind_some,hb,Option.bind_some]
 simp only[]
 have hwl:=zjG b
 have hnl:=hc.nl
 have hwm:∀ i∈yA b,i < r.2.vars.length:=fun i hi=>by have:=zjC hi;have:=p1.vl;omega
 generalize yA b=ws at *
 have hm:(16 * (s.loops:Int)).tmod 16=0:=by rw[Int.tmod_eq_emod_of_nonneg (by omega)];omega
 obtain⟨q1,q2,q3⟩:=jY p1 (n:=⟨3,16 * (s.loops:Int),[]⟩) (zqV (by omega) (by omega)) (by split<;>decide) (zgu _ _ (by decide) (by unfold jH;omega) (by simp) (by decide) (by decide) (by decide) (by decide))
 rw[hm,if_pos rfl]at q2
 have lq:=zV ⟨3,16 * (s.loops:Int),[]⟩ r.2
 generalize zm ⟨3,16 * (s.loops:Int),[]⟩ r.2=q at *
 obtain⟨u1,u2⟩:=zrB (k:=s.loops) (by omega) ws 0 { q.2 with state:=q.1 } (q1.setS q2) (by omega)
 have lu:=zdv (16 * (s.loops:Int)+1) ws 0 { q.2 with state:=q.1 }
 generalize lvL (16 * (s.loops:Int)+1) ws 0 { q.2 with state:=q.1 }=u at *
 have hun:u.loops=s.loops+1:=by rw[lu.2.2.2];show q.2.loops=_;rw[lq.n,hrn]
 obtain⟨t,ht,t1,t2,t3⟩:=IS x.thn u hx.subs.1 (by omega) u1 (by omega)
 have lt:=(zaD c n).2.1 _ _ _ ht
 rw[ht,Option.bind_some]
 obtain⟨d,hd,d1,d2,d3⟩:=zcK hc n x.value t hv (by omega) t1
 have ld:=yg c n _ _ _ hd
 rw[hd,Option.bind_some]
 have le1:Le r.2 d.2:=(lq.le.setS q.1).trans (lu.1.trans (lt.1.trans ld.le))
 have hold:∀ y∈r.2.vars,IsT d.2.l 1 y:=fun y hy=>(p1.v y hy).le le1.l
 have ho:∀ a∈ws.map fun i=>r.2.vars.getD i 0,IsT d.2.l 1 a:=fun a ha=>by
  obtain⟨i,hi,rfl⟩:=List.mem_map.1 ha
  rw[List.getD_eq_getElem?_getD,List.getElem?_eq_getElem (hwm i hi)]
  exact hold _ (List.getElem_mem _)
 have hn:∀ a∈ws.map fun i=>d.2.vars.getD i 0,IsT d.2.l 1 a:=fun a ha=>by
  obtain⟨i,hi,rfl⟩:=List.mem_map.1 ha
  have:=hwm i hi
  have e1:=d1.vl
  have e2:=p1.vl
  rw[List.getD_eq_getElem?_getD,List.getElem?_eq_getElem (show i < d.2.vars.length by omega)]
  exact d1.v _ (List.getElem_mem _)
 have hkl:(r.2.state::(ws.map fun i=>r.2.vars.getD i 0)++[d.1,d.2.state]++ws.map fun i=>d.2.vars.getD i 0).length=2 * ws.length+3:=by simp;omega
 obtain⟨k1,k2,k3⟩:=jY d1 (n:=⟨31,s.loops,r.2.state::(ws.map fun i=>r.2.vars.getD i 0)++[d.1,d.2.state]++ws.map fun i=>d.2.vars.getD i 0⟩) (zqY (p1.st.le le1.l) ho d2 d1.st hn (by simp) (by simp;omega) (by omega) (by omega)) (by decide) (zgu _ _ (by decide) (by unfold jH;omega) (by rw[hkl];omega) (by decide) (by decide) (by decide) (by decide))
 have lk:=zV ⟨31,s.loops,r.2.state::(ws.map fun i=>r.2.vars.getD i 0)++[d.1,d.2.state]++ws.map fun i=>d.2.vars.getD i 0⟩ d.2
 have hq:(zm ⟨31,s.loops,r.2.state::(ws.map fun i=>r.2.vars.getD i 0)++[d.1,d.2.state]++ws.map fun i=>d.2.vars.getD i 0⟩ d.2).2.l[(zm ⟨31,s.loops,r.2.state::(ws.map fun i=>r.2.vars.getD i 0)++[d.1,d.2.state]++ws.map fun i=>d.2.vars.getD i 0⟩ d.2).1.toNat]?=some ⟨31,s.loops,r.2.state::(ws.map fun i=>r.2.vars.getD i 0)++[d.1,d.2.state]++ws.map fun i=>d.2.vars.getD i 0⟩:=zjw _ _
 generalize zm ⟨31,s.loops,r.2.state::(ws.map fun i=>r.2.vars.getD i 0)++[d.1,d.2.state]++ws.map fun i=>d.2.vars.getD i 0⟩ d.2=k at *
 have hlv:lvI (2 * ws.length+3:Nat)=((ws.length+1:Nat):Int):=by rw[zmM _ (by omega)];omega
 have k1':=k1.setV (x:=r.2.vars) (fun y hy=>(hold y hy).le lk.le.l) p1.vl
 obtain⟨f1,f2,f3⟩:=jY k1' (n:=⟨25,0,[k.1]⟩) (zqZ (n:=0) k2 hq (by omega) (by rw[hkl,hlv];omega)) (by decide) (zgu _ _ (by decide) (by unfold jH;omega) (by simp) (by decide) (by decide) (by decide) (by decide))
 rw[if_pos rfl]at f2
 have lf:=zV ⟨25,0,[k.1]⟩ { k.2 with vars:=r.2.vars }
 have le2:r.2.l<+:(zm ⟨25,0,[k.1]⟩ { k.2 with vars:=r.2.vars }).2.l:=(le1.l.trans lk.le.l).trans lf.le.l
 have hfv:(zm ⟨25,0,[k.1]⟩ { k.2 with vars:=r.2.vars }).2.vars=r.2.vars:=lf.v
 obtain⟨m1,m2,m3⟩:=zbW f1 (p2.le le2) f2 (p1.st.le le2) (.inr rfl)
 have lm:=yf r.1 (zm ⟨25,0,[k.1]⟩ { k.2 with vars:=r.2.vars }).1 r.2.state (zm ⟨25,0,[k.1]⟩ { k.2 with vars:=r.2.vars }).2
 generalize zm ⟨25,0,[k.1]⟩ { k.2 with vars:=r.2.vars }=f at *
 generalize zt r.1 f.1 r.2.state f.2=m at *
 have lkm:k.2.l<+:m.2.l:=lf.le.l.trans lm.le.l
 have hqm:m.2.l[k.1.toNat]?=some ⟨31,s.loops,r.2.state::(ws.map fun i=>r.2.vars.getD i 0)++[d.1,d.2.state]++ws.map fun i=>d.2.vars.getD i 0⟩:=by
  obtain⟨z,hz⟩:=lkm
  rw[← hz,List.getElem?_append_left,hq]
  have:=k2.hi;have:=k2.lo;omega
 obtain⟨z1,z2⟩:=zrC (lp:=k.1) (k:=r.1) (old:=r.2.vars) ws 1 { m.2 with state:=m.1 } (m1.setS m2) (k2.le lkm) hqm (p2.le (le2.trans lm.le.l)) (fun y hy=>(p1.v y hy).le (le2.trans lm.le.l)) hwm (Nat.le_refl _) (by rw[hkl,hlv];omega) (by omega)
 have lz:=zfc k.1 r.1 r.2.vars ws 1 { m.2 with state:=m.1 }
 refine⟨_,rfl,z1,?_,?_⟩
 ·rw[lz.2.2.2]
  show m.2.loops≤_
  rw[lm.n,lf.n]
  show k.2.loops≤_
  rw[lk.n,ld.n]
  omega
 ·simp only at z2 p3 u2 f3 ⊢
  omega
theorem zvu {c:Cx} (hc:CxOkU c) {np n:Nat} (IS:ziO c np n) (IW:znh c np n):zng c np (n+1):=fun x s hx hsz h hw=>by
 have hs:=x.sz_eq
 have hw1:=zqD x
 have hkd:=hx.kd
 unfold stL
 by_cases k1:x.kind=1
 ·rw[if_pos k1]
  obtain⟨r,hr,p1,p2,p3⟩:=zcK hc n x.value s (hx.value (.inl k1)) (by omega) h
  have lr:=yg c n _ _ _ hr
  have hn:=hx.name (.inl k1)
  have hvl:=p1.vl
  rw[hr,Option.bind_some,if_pos (by omega)]
  exact⟨_,rfl,p1.setV (fun y hy=>by
   rcases List.mem_or_eq_of_mem_set hy with hy|rfl
   ·exact p1.v y hy
   ·exact p2) (by rw[List.length_set];exact hvl),by show r.2.loops≤_;rw[lr.n];omega,by simp only;omega⟩
 rw[if_neg k1]
 by_cases k2:x.kind=2
 ·rw[if_pos k2]
  obtain⟨r,hr,p1,p2,p3⟩:=zcK hc n x.at_ s (hx.at_ k2) (by omega) h
  obtain⟨v,hv,q1,q2,q3⟩:=zcK hc n x.value r.2 (hx.value (.inr (.inl k2))) (by omega) p1
  have lr:=yg c n _ _ _ hr
  have lv:=yg c n _ _ _ hv
  have hlt:=hx.arr k2
  rw[hr,Option.bind_some,hv,Option.bind_some,List.getElem?_eq_getElem hlt,Option.bind_some]
  have ha:=hc.a _ (List.getElem_mem hlt)
  generalize c.arrays[ixS (c.arrays.map (·.name)) x.name]=ar at ha ⊢
  have p2':=p2.le lv.le.l
  obtain⟨a1,a2⟩:=zoi q1 (n:=ar.len) (by unfold jH;omega) p2'
  have lc:=zdt ar.len r.1 v.2
  obtain⟨b1,b2,b3⟩:=zrx hc a1 (p2'.le lc.le.l) (q2.le lc.le.l) hlt
  exact⟨_,rfl,b1.setS b2,by show(zaL ar.len r.1 v.2).loops≤_;rw[lc.n,lv.n,lr.n];omega,by simp only;omega⟩
 rw[if_neg k2]
 by_cases k3:x.kind=3
 ·rw[if_pos k3]
  rw[if_neg (by omega)]at hw1
  obtain⟨r,hr,p1,p2,p3⟩:=zcK hc n x.value s (hx.value (.inr (.inr (.inl k3)))) (by omega) h
  have lr:=yg c n _ _ _ hr
  have hrn:=lr.n
  obtain⟨a,ha,a1,a2,a3⟩:=IS x.thn r.2 hx.subs.1 (by omega) p1 (by omega)
  have la:=(zaD c n).2.1 _ _ _ ha
  have hal:a.vars.length=c.names.length:=a1.vl
  obtain⟨b,hb,b1,b2,b3⟩:=IS x.els { a with state:=r.2.state,vars:=r.2.vars } hx.subs.2 (by omega) ((a1.setS (p1.st.le la.1.l)).setV (fun y hy=>(p1.v y hy).le la.1.l) p1.vl) (by show a.loops+_≤_;omega)
  have lb:=(zaD c n).2.1 _ _ _ hb
  have lab:a.l<+:b.l:=lb.1.l
  have kb:IsT b.l 1 r.1:=(p2.le la.1.l).le lab
  have hbl:=b1.vl
  obtain⟨m,hm,m1,m2⟩:=zrA (k:=r.1) (a:=a.vars) b.vars.length 0 b b1 kb (fun y hy=>(a1.v y hy).le lab) hal (by omega)
  have lm:=zgn _ _ _ _ _ _ hm
  rw[hr,Option.bind_some,ha,Option.bind_some,hb,Option.bind_some,hm,Option.bind_some]
  obtain⟨t1,t2,t3⟩:=zbW m1 (kb.le lm.1.l) ((a1.st.le lab).le lm.1.l) m1.st (.inr rfl)
  have lt:=yf r.1 a.state m.state m
  have hnl:=hc.nl
  refine⟨_,rfl,t1.setS t2,?_,?_⟩
  ·show(zt r.1 a.state m.state m).2.loops≤_
   rw[lt.n,lm.2.2.2]
   simp only at b2
   omega
  ·simp only at b3 ⊢
   omega
 rw[if_neg k3]
 by_cases k4:x.kind=4
 ·rw[if_pos k4]
  exact IW x s hx k4 (by omega) h hw
 rw[if_neg k4]
 by_cases k5:x.kind=5
 ·rw[if_pos k5]
  obtain⟨r,hr,p1,p2,p3⟩:=zcK hc n x.value s (hx.value (.inr (.inr (.inr (.inr k5))))) (by omega) h
  have lr:=yg c n _ _ _ hr
  rw[hr,Option.bind_some]
  obtain⟨b1,b2,b3⟩:=out_ok p1 p2
  exact⟨_,rfl,b1.setS b2,by show r.2.loops≤_;rw[lr.n];omega,by simp only;omega⟩
 rw[if_neg k5]
 by_cases k6:x.kind=6
 ·rw[if_pos k6]
  obtain⟨r,hr,p1,p2,p3⟩:=zoj hc (n:=n) x.args s hx.args (by omega) h
  obtain⟨lr,hlr⟩:=zdu c n _ _ _ hr
  obtain⟨c1,c2⟩:=hx.call k6
  obtain⟨i,hi,hfe⟩:=zlv c.funcs x.to 0 c1
  obtain⟨f,hfn⟩:=zfa c.funcs hi
  have hfe':yw c.funcs x.to 0=(i:Int):=by simpa using hfe
  have hn:=hx.name (.inr k6)
  have hvl:=p1.vl
  have hpar:r.1.length=f.params.length:=by
   rw[hlr,c2,zi6,hfe',Int.toNat_natCast,hfn];rfl
  rw[hr,Option.bind_some,if_pos ⟨c1,by omega⟩]
  simp only[]
  rw[hfe']
  obtain⟨b1,b2,b3⟩:=zvs hc p1 p2 hfn hpar
  have lb:=zV ⟨30,i,r.2.state::r.1⟩ r.2
  generalize zm ⟨30,i,r.2.state::r.1⟩ r.2=z at *
  obtain⟨d1,d2,d3⟩:=cr_ok (b1.setS b2) b2
  have ld:=zV ⟨24,0,[z.1]⟩ { z.2 with state:=z.1 }
  generalize zm ⟨24,0,[z.1]⟩ { z.2 with state:=z.1 }=w at *
  refine⟨_,rfl,d1.setV (fun y hy=>?_) (by rw[List.length_set];exact d1.vl),?_,?_⟩
  ·rcases List.mem_or_eq_of_mem_set hy with hy|rfl
   ·exact d1.v y hy
   ·exact d2
  ·show w.2.loops≤_
   rw[ld.n]
   show z.2.loops≤_
   rw[lb.n,lr.n]
   omega
  ·simp only at d3 ⊢
   omega
 rw[if_neg k6]
 by_cases k7:x.kind=7
 ·rw[if_pos k7]
  have ht:=hx.trap k7
  have hw:w64 (16+x.n)=16+x.n:=zaV (by omega) (by omega)
  rw[hw]
  obtain⟨a1,a2,a3⟩:=zeb h (n:=0) (by unfold jH;omega)
  obtain⟨b1,b2⟩:=zgv a1 (t:=16+x.n) a2 (by omega) (by omega)
  have lb:=za7 (16+x.n) (zm ⟨1,0,[]⟩ s).1 (zm ⟨1,0,[]⟩ s).2
  exact⟨_,rfl,b1,by rw[lb.n];show s.loops≤_;omega,by omega⟩
 ·omega
theorem zvv {c:Cx}{np n:Nat} (I1:zng c np n) (IS:ziO c np n):ziO c np (n+1):=fun l s hl hsz h hw=>by
 cases l with
 | nil=>exact⟨s,by unfold zav;rfl,h,by omega,by omega⟩
 | cons x l=>
   obtain⟨hx,hl⟩:=hl.cons
   rw[zu]at hsz ⊢
   rw[wS]at hw ⊢
   unfold zav
   simp only[]
   obtain⟨r,hr,p1,p2,p3⟩:=I1 x s hx (by omega) h (by omega)
   obtain⟨t,ht,q1,q2,q3⟩:=IS l r hl (by omega) p1 (by omega)
   rw[hr,Option.bind_some,ht]
   exact⟨t,rfl,q1,by omega,by omega⟩
theorem zlR {c:Cx} (hc:CxOkU c) {np:Nat}:∀ n:Nat,zng c np n∧ziO c np n∧znh c np n
 | 0=>⟨fun x s _ h=>by omega,fun l s _ h=>by omega,fun x s hx _ h=>by have:=x.sz_eq;omega⟩
 | n+1=>by
   obtain⟨a,b,d⟩:=zlR hc (np:=np) n
   exact⟨zvu hc b d,zvv a b,zvt hc b⟩
section
variable {A:List Ar} {F:List Fu} {np:Nat}
theorem NdP.names {N N':List Nm}{x:Nd} (h:NdP ⟨A,F,N⟩ np x):NdP ⟨A,F,N'⟩ np x:=⟨h.op,h.imm,h.len,h.pa,h.ar,h.fn⟩
theorem LI.names {N N':List Nm}{s:Bd} (h:LI ⟨A,F,N⟩ np s) (hl:N'.length=N.length):LI ⟨A,F,N'⟩ np s:=⟨h.nd,h.wf,fun x hx=>(h.p x hx).names,h.v,h.vl.trans hl.symm,h.st⟩
theorem LI.push {N N':List Nm}{s:Bd} (h:LI ⟨A,F,N⟩ np s) {x:Int} (hx:IsT s.l 1 x) (hl:N'.length=N.length+1):LI ⟨A,F,N'⟩ np { s with vars:=s.vars++[x] }:=
 ⟨h.nd,h.wf,fun y hy=>(h.p y hy).names,fun y hy=>by
  rcases List.mem_append.1 hy with hy|hy
  ·exact h.v y hy
  ·simp only[List.mem_cons,List.not_mem_nil,or_false]at hy
   subst hy;exact hx,by
  have:=h.vl
  show(s.vars++[x]).length=_
  rw[List.length_append,this,hl];rfl,h.st⟩
theorem pr_ok (hnp:np≤6):∀ (m k:Nat) (s:Bd) (N N':List Nm),LI ⟨A,F,N⟩ np s→N'.length=N.length+m→k+m≤np→LI ⟨A,F,N'⟩ np (prL m k s)∧(prL m k s).loops=s.loops∧(prL m k s).l.length≤s.l.length+m
 | 0,k,s,N,N',h,hl,_=>⟨h.names hl,rfl,Nat.le_refl _⟩
 | m+1,k,s,N,N',h,hl,hk=>by
   obtain⟨a1,a2,a3⟩:=jY h (n:=⟨2,k,[]⟩) (zpf (by omega) (by omega)) (by decide) ⟨by show 0≤(2:Int)∧(2:Int) < 256;decide,by show jH (k:Int);unfold jH;omega,by show 0≤40;decide,fun _=>by show(k:Int) < np;omega,fun e=>by rcases e with e|e<;>exact absurd e (by show ¬ (2:Int)=_;decide),fun e=>absurd e (by show ¬ (2:Int)=30;decide)⟩
   obtain⟨b1,b2,b3⟩:=pr_ok hnp m (k+1) { (zm ⟨2,k,[]⟩ s).2 with vars:=(zm ⟨2,k,[]⟩ s).2.vars++[(zm ⟨2,k,[]⟩ s).1] } ([]::N) N' (a1.push a2 rfl) (by rw[List.length_cons];omega) (by omega)
   exact⟨b1,b2,by have b4:(prL (m+1) k s).l.length≤(zm ⟨2,k,[]⟩ s).2.l.length+m:=b3;omega⟩
theorem lo_ok:∀ (m:Nat) (s:Bd) (N N':List Nm),LI ⟨A,F,N⟩ np s→N'.length=N.length+m→LI ⟨A,F,N'⟩ np (loL m s)∧(loL m s).loops=s.loops∧(loL m s).l.length≤s.l.length+m
 | 0,s,N,N',h,hl=>⟨h.names hl,rfl,Nat.le_refl _⟩
 | m+1,s,N,N',h,hl=>by
   obtain⟨a1,a2,a3⟩:=zeb h (n:=0) (by unfold jH;omega)
   obtain⟨b1,b2,b3⟩:=lo_ok m { (zm ⟨1,0,[]⟩ s).2 with vars:=(zm ⟨1,0,[]⟩ s).2.vars++[(zm ⟨1,0,[]⟩ s).1] } ([]::N) N' (a1.push a2 rfl) (by rw[List.length_cons];omega)
   exact⟨b1,b2,by have b4:(loL (m+1) s).l.length≤(zm ⟨1,0,[]⟩ s).2.l.length+m:=b3;omega⟩
theorem zrD:LI ⟨A,F,[]⟩ np { (zm ⟨26,0,[]⟩ ⟨[],[],0,0⟩).2 with state:=(zm ⟨26,0,[]⟩ ⟨[],[],0,0⟩).1 }:=by
 obtain⟨a,b⟩:=zlE (l:=[]) (n:=⟨26,0,[]⟩) (fun i hi=>by simp at hi) zpg (by decide)
 refine⟨zg0 List.nodup_nil,b,fun x hx=>?_,(fun y hy=>by cases hy),rfl,a⟩
 rcases (zpb (l:=[]) (n:=⟨26,0,[]⟩)).1 hx with hx|rfl
 ·cases hx
 ·exact zgu _ _ (by decide) (by unfold jH;omega) (by simp) (by decide) (by decide) (by decide) (by decide)
end
structure PrIn (p:Pr):Prop where
 ck:yE p=0
 rg:∀ f∈p.funcs,rgS f.body∧rgE f.value
theorem ref0 {p:Pr} (h:yE p=0):exB p=false∧wfP p=true∧zgl p=false∧p.funcs.any (zcg p)=false∧p.funcs.any (zcy p)=false:=by
 unfold yE at h
 split at h
 ·cases h
 split at h
 ·cases h
 split at h
 ·cases h
 split at h
 ·cases h
 split at h
 ·cases h
 rename_i a b c d e
 exact⟨by simpa using a,by simpa using b,by simpa using c,by simpa using d,by simpa using e⟩
theorem zer {α:Type}{l:List α}{p:α→Bool} (h:l.any p=false) {x:α} (hx:x∈l):p x=false:=by
 cases e:p x with
 | false=>rfl
 | true=>rw[List.any_eq_true.2 ⟨x,hx,e⟩]at h;cases h
theorem PrIn.lim {p:Pr} (h:PrIn p):(∀ a∈p.arrays,1≤a.len∧a.len≤16)∧p.arrays.length≤4∧p.funcs.length≤8∧∀ f∈p.funcs,f.params.length≤6∧f.locals.length≤8∧wS f.body≤16:=by
 have hx:=(ref0 h.ck).1
 unfold exB at hx
 simp only[Bool.or_eq_false_iff,decide_eq_false_iff_not]at hx
 obtain⟨⟨⟨h1,h2⟩,h3⟩,h4⟩:=hx
 refine⟨fun a ha=>?_,by omega,by omega,fun f hf=>?_⟩
 ·have:=zer h3 ha
  unfold exAr at this
  simp only[Bool.or_eq_false_iff,decide_eq_false_iff_not]at this
  omega
 ·have:=zer h4 hf
  unfold zgk at this
  simp only[Bool.or_eq_false_iff,decide_eq_false_iff_not]at this
  omega
theorem PrIn.cx {p:Pr} (h:PrIn p) {f:Fu} (hf:f∈p.funcs):CxOkU (cxL p f):=by
 obtain⟨h1,h2,h3,h4⟩:=h.lim
 have:=h4 f hf
 exact⟨h1,h2,h3,fun g hg=>(h4 g hg).1,by show(f.params++f.locals).length≤14;rw[List.length_append];omega⟩
theorem PrIn.body {p:Pr} (h:PrIn p) {f:Fu} (hf:f∈p.funcs):SsOk (cxL p f) f.body∧XOk (cxL p f) f.value:=by
 obtain⟨_,h2,_,h4,h5⟩:=ref0 h.ck
 unfold wfP at h2
 rw[Bool.and_eq_true,List.all_eq_true,List.all_eq_true]at h2
 have w:=h2.2 f hf
 have u:=zer h4 hf
 have b:=zer h5 hf
 unfold zez at w
 unfold zcg at u
 unfold zcy at b
 simp only[Bool.and_eq_true,Bool.not_eq_false']at w u b
 obtain⟨r1,r2⟩:=h.rg f hf
 exact⟨⟨w.1.2,u.1,b,r1⟩,⟨w.2,u.2,r2⟩⟩
theorem zkr {p:Pr} (h:PrIn p) {n:Nat} (hn:2 * p.sz < n) {f:Fu} (hf:f∈p.funcs) :
 ∃ s v,zav (cxL p f) n f.body (j6 f)=some s∧exL (cxL p f) n f.value s=some v∧LI (cxL p f) f.params.length v.2∧IsT v.2.l 1 v.1∧v.2.loops≤16∧v.2.l.length≤64 * p.sz:=by
 obtain⟨_,_,_,h4⟩:=h.lim
 obtain⟨l1,l2,l3⟩:=h4 f hf
 obtain⟨hb,hv⟩:=h.body hf
 have hc:=h.cx hf
 have hfz:=zby hf
 have hpz:p.sz=1+zak p.arrays+za2 p.funcs:=rfl
 have hfs:f.sz=1+f.name.length+jd f.params+jd f.locals+zu f.body+f.value.sz:=rfl
 have e0:=zrD (A:=p.arrays) (F:=p.funcs) (np:=f.params.length)
 obtain⟨a1,a2,a3⟩:=pr_ok l1 f.params.length 0 _ [] f.params e0 (by simp) (by omega)
 obtain⟨b1,b2,b3⟩:=lo_ok f.locals.length _ f.params (f.params++f.locals) a1 (by rw[List.length_append])
 have hs:LI (cxL p f) f.params.length (j6 f):=b1
 have hs2:(j6 f).loops=0:=b2.trans a2
 have hs3:(j6 f).l.length≤15:=by
  have e1:(j6 f).l.length≤(prL f.params.length 0 { (zm ⟨26,0,[]⟩ ⟨[],[],0,0⟩).2 with state:=(zm ⟨26,0,[]⟩ ⟨[],[],0,0⟩).1 }).l.length+f.locals.length:=b3
  have e2:(prL f.params.length 0 { (zm ⟨26,0,[]⟩ ⟨[],[],0,0⟩).2 with state:=(zm ⟨26,0,[]⟩ ⟨[],[],0,0⟩).1 }).l.length≤1+f.params.length:=a3
  omega
 obtain⟨s,q1,q2,q3,q4⟩:=(zlR hc (np:=f.params.length) n).2.1 f.body (j6 f) hb (by omega) hs (by omega)
 obtain⟨v,r1,r2,r3,r4⟩:=zcK hc n f.value s hv (by omega) q2
 have lv:=yg _ n _ _ _ r1
 exact⟨s,v,q1,r1,r2,r3,by rw[lv.n];omega,by omega⟩
theorem LI.fin {c:Cx}{np:Nat}{s:Bd} (h:LI c np s) (hl:s.l.length < 2 ^ 36) (hn:s.loops≤16):Fin s:=by
 refine⟨fun x hx=>?_,hl,by omega⟩
 have hp:=h.p x hx
 obtain⟨i,hi,e⟩:=List.getElem_of_mem hx
 have hg:s.l[i]?=some x:=by rw[List.getElem?_eq_getElem hi,e]
 have hw:=h.wf i hi
 rw[zd1 hi]at hw
 obtain⟨t,hk,_,_⟩:=zig hg hw
 refine⟨hp.op,hp.imm,fun k hm=>?_,by have:=hp.len;omega⟩
 have:=zcY hk k hm
 omega
theorem low_ok {p:Pr} (h:PrIn p) (hz:p.sz < 2 ^ 30) {n:Nat} (hn:2 * p.sz < n):zru p n:=fun f hf=>by
 obtain⟨s,v,h1,h2,h3,h4,h5,h6⟩:=zkr h hn hf
 exact⟨s,v,h1,h2,h3.fin (by omega) h5⟩
def stB (n:Nd):Bool:=decide (n.op=27)||decide (n.op=28)||decide (n.op=29)
inductive Rch (l:List Nd):Int→Int→Prop
 | refl (k:Int):Rch l k k
 | step {k m b:Int}{n:Nd}:0≤k→l[k.toNat]?=some n→stB n=true→n.kids[0]?=some m→Rch l m b→Rch l k b
theorem zhv {l l':List Nd} (h:l<+:l') {i:Nat}{n:Nd} (k:l[i]?=some n):l'[i]?=some n:=by
 obtain⟨m,rfl⟩:=h
 rw[List.getElem?_append_left (List.getElem?_eq_some_iff.1 k).1];exact k
theorem Rch.mono {l l':List Nd} (hl:l<+:l') {a b:Int} (h:Rch l a b):Rch l' a b:=by
 induction h with
 | refl k=>exact .refl k
 | step h0 h1 h2 h3 _ ih=>exact .step h0 (zhv hl h1) h2 h3 ih
theorem Rch.trans {l:List Nd}{a b c:Int} (h:Rch l a b) (k:Rch l b c):Rch l a c:=by
 induction h with
 | refl=>exact k
 | step h0 h1 h2 h3 _ ih=>exact .step h0 h1 h2 h3 (ih k)
structure Pth (s r:Bd):Prop where
 le:s.l<+:r.l
 st:Rch r.l r.state s.state
 nw:∀ (i:Nat) (n:Nd),s.l.length≤i→r.l[i]?=some n→stB n=true→Rch r.l r.state i
theorem Pth.refl (s:Bd):Pth s s:=⟨List.prefix_refl _,.refl _,fun i n h k=>by rw[List.getElem?_eq_none h]at k;cases k⟩
theorem zok {l l':List Nd} (h:l<+:l') {i:Nat}{n:Nd} (hi:i < l.length) (k:l'[i]?=some n):l[i]?=some n:=by
 obtain⟨m,rfl⟩:=h
 rw[List.getElem?_append_left hi]at k;exact k
theorem Pth.trans {a b c:Bd} (h:Pth a b) (k:Pth b c):Pth a c:=⟨h.le.trans k.le,k.st.trans (h.st.mono k.le),fun i n hi hn hs=>by
 by_cases c:b.l.length≤i
 ·exact k.nw i n c hn hs
 ·exact k.st.trans ((h.nw i n hi (zok k.le (by omega) hn) hs).mono k.le)⟩
theorem Pth.setV {s r:Bd} (h:Pth s r) (v:List Int):Pth s { r with vars:=v }:=⟨h.le,h.st,h.nw⟩
theorem zol {l:List Nd}{n m:Nd}{i:Nat} (hi:l.length≤i) (hm:(zaA l n)[i]?=some m):m=n∧zbl l n=i:=by
 unfold zaA at hm
 split at hm
 ·rw[List.getElem?_eq_none hi]at hm;cases hm
 ·rename_i c
  have h2:=zhq l n
  rw[List.getElem?_append_right hi]at hm
  cases e:i - l.length with
  | zero=>
    rw[e]at hm
    simp only[List.getElem?_cons_zero,Option.some.injEq]at hm
    exact⟨hm.symm,by omega⟩
  | succ j=>rw[e]at hm;simp at hm
theorem Pth.put (n:Nd) (s:Bd) (hn:stB n=false):Pth s (zm n s).2:=⟨za6 _ _,.refl _,fun i m hi hm hs=>by
 obtain⟨rfl,_⟩:=zol hi hm
 rw[hn]at hs;cases hs⟩
theorem ziP {n:Nd}{s:Bd} (hs:stB n=true) (hk:n.kids[0]?=some s.state):Pth s { (zm n s).2 with state:=(zm n s).1 }:=⟨za6 _ _,.step (Int.natCast_nonneg _) (by show(zaA s.l n)[((zbl s.l n:Nat):Int).toNat]?=some n;rw[Int.toNat_natCast];exact zjw _ _) hs hk (.refl _),fun i m hi hm h2=>by
 obtain⟨_,e⟩:=zol hi hm
 show Rch _ ((zbl s.l n:Nat):Int) _
 rw[e];exact .refl _⟩
theorem zlS {c a b:Int}{s:Bd} (h:∀ n∈(zt c a b s).2.l,n.op≠22):zt c a b s=(a,s)∧a=b:=by
 unfold zt at h ⊢
 by_cases e:a=b
 ·rw[if_pos e];exact⟨rfl,e⟩
 ·rw[if_neg e]at h
  exact absurd rfl (h ⟨22,0,[c,a,b]⟩ (zpb.2 (.inr rfl)))
theorem Pth.guard (t v:Int) (s:Bd):Pth s (zbA t v s):=ziP (n:=⟨27,t,[s.state,v]⟩) rfl rfl
theorem zom (n i:Int) (s:Bd):Pth s (zaL n i s):=((Pth.put ⟨1,n,[]⟩ s rfl).trans (Pth.put ⟨19,0,[i,(zm ⟨1,n,[]⟩ s).1]⟩ _ rfl)).trans (Pth.guard 2 _ _)
theorem Pth.div (v:Int) (s:Bd):Pth s (zfb v s):=((Pth.put ⟨1,0,[]⟩ s rfl).trans (Pth.put ⟨16,0,[v,(zm ⟨1,0,[]⟩ s).1]⟩ _ rfl)).trans (Pth.guard 1 _ _)
def zlT (l:List Nd):Prop:=∀ m∈l,m.op≠22
theorem zlT.of {l l':List Nd} (h:zlT l') (k:l<+:l'):zlT l:=fun m hm=>h m (k.subset hm)
theorem zon {o:Int} (h:zdm o=true∨o=20∨o=21) (i:Int) (ks:List Int):stB ⟨o,i,ks⟩=false:=by
 have:o≤21:=by
  rcases h with h|h|h
  ·simp only[zdm,Bool.and_eq_true,decide_eq_true_eq]at h;omega
  ·omega
  ·omega
 simp only[stB,Bool.or_eq_false_iff,decide_eq_false_iff_not]
 omega
theorem zks (c:Cx):∀ (n:Nat) (x:Ex) (s:Bd) (r:Int×Bd),wfE x=true→exL c n x s=some r→zlT r.2.l→Pth s r.2
 | 0,_,_,_,_,h,_=>by simp[exL]at h
 | n+1,x,s,r,w,h,h22=>by
   have IH:=zks c n
   rw[zmT,Bool.and_eq_true]at w
   obtain⟨wk,wx⟩:=w
   unfold exL at h
   by_cases k1:x.kind=1
   ·rw[if_pos k1]at h
    cases h;exact Pth.put _ s rfl
   rw[if_neg k1]at h
   by_cases k2:x.kind=2
   ·rw[if_pos k2]at h
    obtain⟨v,_,rfl⟩:=Option.map_eq_some_iff.1 h;exact Pth.refl _
   rw[if_neg k2]at h
   by_cases k3:x.kind=3
   ·rw[if_pos k3]at h
    simp only[Option.bind_eq_some_iff,Option.some.injEq]at h
    obtain⟨k,hk,r1,h1,a,_,rfl⟩:=h
    have p2:=(zom a.len r1.1 r1.2).trans (Pth.put ⟨23,ixS (c.arrays.map (·.name)) x.name,[(zaL a.len r1.1 r1.2).state,r1.1]⟩ _ rfl)
    exact(IH _ _ _ (zbK wk hk) h1 (h22.of p2.le)).trans p2
   rw[if_neg k3]at h
   by_cases k5:x.kind=5
   ·rw[if_pos k5]at h
    simp only[Option.bind_eq_some_iff,Option.some.injEq]at h
    obtain⟨x0,q0,r0,h0,x1,q1,r1,h1,x2,q2,r2,h2,rfl⟩:=h
    dsimp only at h22 ⊢
    generalize hv:zt r0.1 r1.1 r2.1 r2.2=v at *
    generalize ht:zt r0.1 r1.2.state v.2.state v.2=t at *
    obtain⟨e1,e2⟩:=zlS (c:=r0.1) (a:=r1.2.state) (b:=v.2.state) (s:=v.2) (by rw[ht];exact h22)
    rw[ht]at e1
    subst e1
    obtain⟨e3,_⟩:=zlS (c:=r0.1) (a:=r1.1) (b:=r2.1) (s:=r2.2) (by rw[hv];exact h22)
    rw[hv]at e3
    subst e3
    clear hv ht
    have l0:=(yg c n _ _ _ h0).le.l
    have l1:=(yg c n _ _ _ h1).le.l
    have l2:r1.2.l<+:r2.2.l:=(yg c n _ _ _ h2).le.l
    have b0:=IH _ _ _ (zbK wk q0) h0 (h22.of (l1.trans l2))
    have b1:=IH _ _ _ (zbK wk q1) h1 (h22.of l2)
    have b2:=IH _ _ _ (zbK wk q2) h2 h22
    refine b0.trans ⟨l1.trans l2,b1.st.mono l2,fun i m hi hm hs=>?_⟩
    by_cases ci:r1.2.l.length≤i
    ·have:=b2.nw i m ci hm hs
     rw[← e2]at this;exact this
    ·exact(b1.nw i m hi (zok l2 (by omega) hm) hs).mono l2
   rw[if_neg k5]at h
   have hop:zdm x.op=true∨x.op=20∨x.op=21:=by
    rw[wfX,if_neg k1,if_neg k2,if_neg k3]at wx
    by_cases k4:x.kind=4
    ·rw[if_pos k4]at wx
     simp only[Bool.and_eq_true,Bool.or_eq_true,decide_eq_true_eq]at wx
     rcases wx.2 with h|h
     ·exact .inl h.2
     ·exact .inr h.2
    ·rw[if_neg k4,if_neg k5]at wx;cases wx
   simp only[Option.bind_eq_some_iff]at h
   obtain⟨x0,q0,r0,h0,h⟩:=h
   split at h
   ·cases h
    have p2:=Pth.put ⟨x.op,0,[r0.1]⟩ r0.2 (zon hop _ _)
    exact(IH _ _ _ (zbK wk q0) h0 (h22.of p2.le)).trans p2
   ·simp only[Option.bind_eq_some_iff,Option.some.injEq]at h
    obtain⟨x1,q1,r1,h1,rfl⟩:=h
    have p1:Pth r1.2 (if x.op=7∨x.op=8 then zfb r1.1 r1.2 else r1.2):=by
     split
     ·exact Pth.div _ _
     ·exact Pth.refl _
    have p2:=p1.trans (Pth.put ⟨x.op,0,[r0.1,r1.1]⟩ _ (zon hop _ _))
    have b1:=IH _ _ _ (zbK wk q1) h1 (h22.of p2.le)
    have p3:=b1.trans p2
    exact(IH _ _ _ (zbK wk q0) h0 (h22.of p3.le)).trans p3
def yC (x:St):Bool:=decide (x.kind=1)||decide (x.kind=5)||decide (x.kind=2)||decide (x.kind=7)
theorem zvw (c:Cx) (n:Nat) (x:St) (s r:Bd) (hx:yC x=true) (w:zey x=true) (h:stL c n x s=some r) (h22:zlT r.l):Pth s r:=by
 cases n with
 | zero=>simp[stL]at h
 | succ n=>
   have IH:=zks c n
   simp only[zdq,zbg,Bool.and_eq_true]at w
   have wk:=w.1.1.2
   rw[zbQ]at wk
   unfold stL at h
   by_cases k1:x.kind=1
   ·rw[if_pos k1]at h wk
    simp only[Bool.and_eq_true]at wk
    simp only[Option.bind_eq_some_iff]at h
    obtain⟨r1,h1,h⟩:=h
    split at h
    ·cases h
     exact(IH _ _ _ wk.2 h1 h22).setV _
    ·cases h
   rw[if_neg k1]at h wk
   by_cases k2:x.kind=2
   ·rw[if_pos k2]at h wk
    simp only[Bool.and_eq_true]at wk
    simp only[Option.bind_eq_some_iff,Option.some.injEq]at h
    obtain⟨i,h1,v,h2,a,_,rfl⟩:=h
    have p2:=(zom a.len i.1 v.2).trans (ziP (n:=⟨28,ixS (c.arrays.map (·.name)) x.name,[(zaL a.len i.1 v.2).state,i.1,v.1]⟩) rfl rfl)
    have p3:=(IH _ _ _ wk.2 h2 (h22.of p2.le)).trans p2
    exact(IH _ _ _ wk.1.1.2 h1 (h22.of p3.le)).trans p3
   rw[if_neg k2]at h wk
   have k3:¬ x.kind=3:=fun e=>by simp[yC,e]at hx
   have k4:¬ x.kind=4:=fun e=>by simp[yC,e]at hx
   have k6:¬ x.kind=6:=fun e=>by simp[yC,e]at hx
   rw[if_neg k3,if_neg k4]at h wk
   by_cases k5:x.kind=5
   ·rw[if_pos k5]at h wk
    simp only[Bool.and_eq_true]at wk
    simp only[Option.bind_eq_some_iff,Option.some.injEq]at h
    obtain⟨v,h1,rfl⟩:=h
    have p2:=ziP (n:=⟨29,0,[v.2.state,v.1]⟩) (s:=v.2) rfl rfl
    exact(IH _ _ _ wk.2 h1 (h22.of p2.le)).trans p2
   rw[if_neg k5,if_neg k6]at h
   split at h
   ·cases h
    exact(Pth.put ⟨1,0,[]⟩ s rfl).trans (Pth.guard _ _ _)
   ·cases h;exact Pth.refl _
theorem zlU (c:Cx):∀ (n:Nat) (l:List St) (s r:Bd),(∀ x∈l,yC x=true)→zaW l=true→zav c n l s=some r→zlT r.l→Pth s r
 | 0,_,_,_,_,_,h,_=>by simp[zav]at h
 | n+1,[],s,r,_,_,h,_=>by unfold zav at h;cases h;exact Pth.refl _
 | n+1,x::l,s,r,hx,w,h,h22=>by
   unfold zav at h
   rw[zaW,Bool.and_eq_true]at w
   simp only[Option.bind_eq_some_iff]at h
   obtain⟨t,h1,h2⟩:=h
   have l2:=((zaD c n).2.1 _ _ _ h2).1.l
   exact(zvw c n x s t (hx x List.mem_cons_self) w.1 h1 (h22.of l2)).trans (zlU c n l t r (fun y hy=>hx y (List.mem_cons_of_mem _ hy)) w.2 h2 h22)
def e0B:Bd:=⟨[⟨26,0,[]⟩],[],0,0⟩
theorem zoo:∀ (m k:Nat) (s:Bd),Pth s (prL m k s)
 | 0,k,s=>Pth.refl s
 | m+1,k,s=>((Pth.put ⟨2,k,[]⟩ s rfl).setV _).trans (zoo m (k+1) _)
theorem zop:∀ (m:Nat) (s:Bd),Pth s (loL m s)
 | 0,s=>Pth.refl s
 | m+1,s=>((Pth.put ⟨1,0,[]⟩ s rfl).setV _).trans (zop m _)
theorem ziQ (f:Fu):Pth e0B (j6 f):=(zoo f.params.length 0 e0B).trans (zop f.locals.length _)
theorem zvx {p:Pr}{n:Nat}{f:Fu}{g:Gr} (h:fnL p n f=some g) (hx:∀ x∈f.body,yC x=true) (w:zaW f.body=true) (w2:wfE f.value=true) (h22:zlT g.nodes) :
 g.nodes[0]?=some ⟨26,0,[]⟩∧Rch g.nodes g.state 0∧∀ (i:Nat) (m:Nd),g.nodes[i]?=some m→stB m=true→Rch g.nodes g.state i:=by
 unfold fnL at h
 simp only[Option.bind_eq_some_iff,Option.some.injEq]at h
 obtain⟨s,h1,v,h2,rfl⟩:=h
 have l2:=(yg _ n _ _ _ h2).le.l
 have b:=(ziQ f).trans ((zlU _ n _ _ _ hx w h1 (h22.of l2)).trans (zks _ n _ _ _ w2 h2 h22))
 have g0:v.2.l[0]?=some ⟨26,0,[]⟩:=zhv b.le rfl
 refine⟨g0,b.st,fun i m hi hs=>?_⟩
 cases i with
 | zero=>
   rw[show v.2.l[0]?=some m from hi]at g0
   cases g0
   cases hs
 | succ i=>exact b.nw (i+1) m (by show 1≤i+1;omega) hi hs
def zcD (l:List Nd):Nat→Int
 | 0=>0
 | i+1=>match l[i]? with
   | some n=>if stB n=true then i else zcD l i
   | none=>zcD l i
theorem ziR {l:List Nd}{m:Int}:∀ {i:Nat},(∀ (q:Nat) n,q < i→l[q]?=some n→stB n=true→(q:Int)≤m)→(m=0∨(0≤m∧m < i∧∃ n,l[m.toNat]?=some n∧stB n=true))→zcD l i=m
 | 0,_,h=>by
   rcases h with h|⟨h1,h2,_⟩
   ·exact h.symm
   ·omega
 | i+1,h1,h2=>by
   have ih:=fun h=>ziR (l:=l) (m:=m) (i:=i) (fun q n hq=>h1 q n (by omega)) h
   unfold zcD
   cases e:l[i]? with
   | none=>
     refine ih (h2.imp id fun ⟨a,b,n,c,d⟩=>⟨a,?_,n,c,d⟩)
     by_cases hm:m=i
     ·rw[hm,Int.toNat_natCast,e]at c;cases c
     ·omega
   | some n=>
     show(if stB n=true then (i:Int)else zcD l i)=m
     by_cases hs:stB n=true
     ·rw[if_pos hs]
      have:=h1 i n (by omega) e hs
      rcases h2 with h2|⟨_,b,_⟩<;>omega
     ·rw[if_neg hs]
      refine ih (h2.imp id fun ⟨a,b,n',c,d⟩=>⟨a,?_,n',c,d⟩)
      by_cases hm:m=i
      ·rw[hm,Int.toNat_natCast,e]at c;cases c;exact absurd d hs
      ·omega
theorem zrE {l:List Nd} (hw:Wf l) {i:Nat}{n:Nd} (hn:l[i]?=some n) {m:Int} (hm:n.kids[0]?=some m):0≤m∧m < i:=by
 have:=zmK hn (hw i (List.getElem?_eq_some_iff.1 hn).1) m (List.mem_of_getElem? hm)
 exact⟨this.1,this.2.1⟩
theorem Rch.le {l:List Nd} (hw:Wf l) {a b:Int} (h:Rch l a b):b≤a:=by
 induction h with
 | refl=>exact Int.le_refl _
 | step h0 h1 h2 h3 _ ih=>have:=zrE hw h1 h3;omega
theorem Rch.lin {l:List Nd}{a b c:Int} (h:Rch l a b) (k:Rch l a c):Rch l b c∨Rch l c b:=by
 induction h with
 | refl=>exact .inl k
 | step h0 h1 h2 h3 h4 ih=>
   cases k with
   | refl=>exact .inr (.step h0 h1 h2 h3 h4)
   | step q0 q1 q2 q3 q4=>
     rw[h1]at q1;cases q1
     rw[h3]at q3;cases q3
     exact ih q4
theorem Rch.end0 {l:List Nd}{m:Int} (h:Rch l m 0):m=0∨∃ n,0≤m∧l[m.toNat]?=some n∧stB n=true:=by
 cases h with
 | refl=>exact .inl rfl
 | step h0 h1 h2 _ _=>exact .inr ⟨_,h0,h1,h2⟩
theorem zrF {l:List Nd}{st:Int} (hw:Wf l) (h0:l[0]?=some ⟨26,0,[]⟩) (p:Rch l st 0) (nw:∀ (i:Nat) (n:Nd),l[i]?=some n→stB n=true→Rch l st i) :
 (∀ (i:Nat) (n:Nd),l[i]?=some n→stB n=true→n.kids[0]?=some (zcD l i))∧st=zcD l l.length:=by
 refine⟨fun i n hn hs=>?_,?_⟩
 ·have hi:i≠0:=fun e=>by subst e;rw[h0]at hn;cases hn;cases hs
  have hr:=nw i n hn hs
  have h1:Rch l i 0:=by
   rcases hr.lin p with h|h
   ·exact h
   ·have:=h.le hw;omega
  generalize hk:(i:Int)=k at h1
  cases h1 with
  | refl=>omega
  | step q0 q1 q2 q3 q4=>
    rename_i m n'
    subst hk
    rw[Int.toNat_natCast,hn]at q1;cases q1
    rw[q3]
    have hm:=zrE hw hn q3
    refine congrArg some (ziR (fun q x hq hx hxs=>?_) ?_).symm
    ·have h2:Rch l i q:=by
      rcases hr.lin (nw q x hx hxs)with h|h
      ·exact h
      ·have:=h.le hw;omega
     generalize hk:(i:Int)=k at h2
     cases h2 with
     | refl=>omega
     | step r0 r1 r2 r3 r4=>
       subst hk
       rw[Int.toNat_natCast,hn]at r1;cases r1
       rw[q3]at r3;cases r3
       exact r4.le hw
    ·rcases q4.end0 with h|⟨x,a,b,c⟩
     ·exact .inl h
     ·exact .inr ⟨a,hm.2,x,b,c⟩
 ·refine(ziR (fun q x hq hx hxs=>(nw q x hx hxs).le hw) ?_).symm
  rcases p.end0 with h|⟨x,a,b,c⟩
  ·exact .inl h
  ·refine .inr ⟨a,?_,x,b,c⟩
   have:=(List.getElem?_eq_some_iff.1 b).1
   omega
theorem prE_ns (p:Pr):(prE p).any (zd2 90)=false:=rfl
structure LwOk (p:Pr):Prop where
 sz:p.sz < 2 ^ 30
 rg:yE p=0→∀ f∈p.funcs,rgS f.body∧rgE f.value
def zg9 (p:Pr):Un×Int:=(zlz p (2 * p.sz+1)).getD (⟨[],[]⟩,0)
theorem zlV {p:Pr} (h:PrIn p) {n:Nat} (hn:2 * p.sz < n):∀ (l:List Fu) (gs:List Gr),(∀ f∈l,f∈p.funcs)→∃ r,zg8 p n l gs=some r
 | [],gs,_=>⟨_,rfl⟩
 | f::l,gs,hl=>by
   obtain⟨s,v,e1,e2,_⟩:=zkr h hn (hl f List.mem_cons_self)
   rw[zg8,fnL,e1,Option.bind_some,e2,Option.bind_some,Option.bind_some]
   split
   ·exact⟨_,rfl⟩
   ·exact zlV h hn l _ fun g hg=>hl g (List.mem_cons_of_mem _ hg)
theorem LwOk.low {p:Pr} (h:LwOk p):zlz p (2 * p.sz+1)=some ((zg9 p).1,(zg9 p).2):=by
 have:∃ r,zlz p (2 * p.sz+1)=some r:=by
  unfold zlz
  split
  ·rename_i c
   exact zlV ⟨c,h.rg c⟩ (Nat.lt_succ_self _) _ _ fun f hf=>hf
  ·exact⟨_,rfl⟩
 obtain⟨r,hr⟩:=this
 rw[zg9,hr];rfl
noncomputable def enLw:En:=⟨15,true,spP LwOk prE fun p=>.tup [.agg (zg9 p).1.cells,.int .i64 (zg9 p).2]⟩
theorem zvy (ρ:Nat→Int):zbI Try.prog ρ enLw:=jL fun p hp=>zpw ρ p (n:=2 * p.sz+1) (by have:=hp.sz;omega) (fun hc=>low_ok ⟨hc,hp.rg hc⟩ hp.sz (Nat.lt_succ_self _)) hp.low
theorem lwX {l:List En} (hl:∀ ar,yQ l 15 ar=(enW enLw).sp ar) (hi:zev l 15=true) {S:Nat→Prop}{n:Nat}{H:Hp}{cs:List AV}{p:Pr} (hn:n < 59) (hc:ym S n H cs p.cells) (hz:LwOk p) :
 zr Try.prog (zK pls l) 15 [.agg cs] H fun v H'=>v=.tup [.agg (zg9 p).1.cells,.int .i64 (zg9 p).2]∧Icy S H H':=by
 obtain⟨us,h1,h2⟩:=hc
 refine zmP (x:=p) (enc:=prE) (ok:=LwOk) (out:=fun p=>.tup [.agg (zg9 p).1.cells,.int .i64 (zg9 p).2]) (us:=[.agg us]) (n:=n+1) zcx (fun ar=>by rw[hl];rfl) hi prE_ns hz (by omega) ⟨⟨us,h1,rfl⟩,trivial⟩ ?_
 show [AV.agg (us.map (wkN 59))]=_
 rw[h2 59 (by omega)];rfl
namespace tyG5a
def tyF:=And.intro @tq3 (And.intro @tq9 (And.intro @zcV (And.intro @zcc (And.intro @za9 (And.intro @zba (And.intro @zau (And.intro @zbw (And.intro @tq77 (And.intro @zhh (And.intro @kb7 (And.intro @ziL (And.intro @nms2 (And.intro @kb1 (And.intro @kb2 (@kb3)))))))))))))))
end tyG5a
open tyG5a
set_option maxRecDepth 100000 in
theorem zlW {lG:List En} (hG:GenL lG) {k:Nat}{f:Int}{deep lo:Nat}{H H2:Hp}{r:Nat}{L1:List Int}{c q m:Int}{E2:Env} (hst:deep≤2→zag lG k f (deep+1)) (hat:AtT f deep lo H H2 r L1 c q m E2)  (hp0:q < 6):Wp Try.prog (zK pls lG) 55 156 zbj E2 H2 (zcC k f deep lo H r L1 c q m):=by
 obtain⟨hd,hrl,hlo,n2,g2,o2',hr2,hL1,hm,hqd,k0,k1,k2,k6,k8,k9,k10⟩:=hat
 have hkeep:(zK pls lG).keep 55=false:=rfl
 have hq2:(2:Int)≠0:=by decide
 have hlen0:((yB f).length:Int)≠0:=by rcases zbi f with h|h<;>rw[h]<;>decide
 obtain⟨hi0,hix⟩:=zah (yB f) hlen0 hm.1 []
 have hxs:=zko hm.1
 have hxa:=zdy hm.1
 have hxf:=zgZ hm.1
 have er:(H.next == r)=false:=zP (by omega)
 have e41:=zJ f 4 1 L1
 have e50:=zJ f 5 0 L1
 have e32:=zJ f 3 2 L1
 have hwd:IntKind.wrap .i64 ((deep:Int)+1)=((deep+1:Nat):Int):=z9 (by omega)
 unfold zcC
 generalize hR:jF (zja f k deep) f L1 c q m=R
 rw[jF]at hR
 dsimp only[zbj,scR,zd8]
 repeat' (first
  | (apply Rx.nl ?_;clear hK K)|apply Ry.o ?_|(apply Ry.cd (fun hb hbp=>?_) (fun hb hbp=>?_)<;>try (cases hb;done))|apply Wp.seq ?_|(apply zd fun K hK=>?_)|(apply zf 8 [(3,9),(3,11),(6,9),(6,11)] fun K hK=>?_)|(apply zf 10 [(0,7),(0,10),(0,12),(4,7),(4,10),(4,12)] fun K hK=>?_)|(apply zf 24 [(3,14),(6,14),(7,14),(11,14),(13,14)] fun K hK=>?_)|(apply zf 28 [(1,4),(1,6),(5,6)] fun K hK=>?_)|(apply zw ?_;try intro _)|(apply zx ?_ ?_<;>clear hK K)|apply WpT.step ?_|apply zo rfl ?_|apply Wp.block ?_|apply Rx.rt ?_)

 refine WpL.call rfl eVk eAk ?_;simp only[List.cons_append,List.nil_append,List.append_nil]
 refine zr.mono ?_ (js hG 5 f 0 (by omega) (by omega) lo _ r L1 c hr2 (by omega))
 rintro v H4 ⟨⟨cs,rfl,hc1,hc2,hc3⟩,hr4,n4,o4⟩
 obtain⟨v0,v1,v2,v3,v4,rfl⟩:=zcJ hc1
 obtain⟨w0,w1,w2,w3,w4⟩:=zi9 hc2
 have g4:H4.get H.next=some (.cells [.int .i64 0,.str [],.str [],.int .i64 0,.int .i64 0,.int .i64 0,.str [],.int .i64 0,.nilS,.int .i64 0,.int .i64 0,.str [],.int .i64 0,.nilS,.nilS,.nilS,.nilS] 0 true):=by rw[o4 _ (by omega) (by omega)];exact g2
 dsimp only[zA]
 repeat' (first
  | (apply Rx.nl ?_;clear hK K)|apply Rx.o ?_|apply Rx.on ?_|apply Wp.seq ?_|(apply zd fun K hK=>?_)|(apply zf 8 [(3,9),(3,11),(6,9),(6,11)] fun K hK=>?_)|(apply zf 10 [(0,7),(0,10),(0,12),(4,7),(4,10),(4,12)] fun K hK=>?_)|(apply zf 24 [(3,14),(6,14),(7,14),(11,14),(13,14)] fun K hK=>?_)|(apply zf 28 [(1,4),(1,6),(5,6)] fun K hK=>?_)|(apply zw ?_;try intro _)|(apply zx ?_ ?_<;>clear hK K)|apply WpT.step ?_|apply zo rfl ?_|apply Wp.block ?_|apply Rx.rt ?_)
 ·exact eK
 ·refine⟨eI,_,(by(try simp only[sB,sO,Nat.reduceBEq,Nat.reduceAdd,Nat.reduceLeDiff,tyF,zQ,yb,ziL, *]);first|done|with_reducible rfl),?_⟩;try simp only[zp]
  rw[if_pos (by omega)]at hR
  subst hR
  refine zfe rfl (by simp only[List.all_cons,List.all_nil,w0,w1,w2,w3,w4,Bool.and_true];rfl) (zdz (n:=8+k) 1 _ [] 0 zlO ((hc3.up (by omega)).keep2 (fun q _ hq=>by omega) (by simp only[ze];omega) fun q h1 h2=>by rw[Hp.get_set,if_neg (by omega)]) .nilS .nilS .nilS) ?_ ?_ ?_
  ·exact hr4.keep (by simp only[ze];omega) fun q hq=>by rw[Hp.get_set,if_neg (by omega)]
  ·simp only[ze];omega
  ·intro q h1 h2
   rw[Hp.get_set,if_neg (by omega),o4 _ (by omega) h2]
   exact o2' q h1 h2
set_option maxRecDepth 100000 in
theorem zni {lG:List En} (hG:GenL lG) {k:Nat}{f:Int}{deep lo:Nat}{H H2:Hp}{r:Nat}{L1:List Int}{c q m:Int}{E2:Env} (hst:deep≤2→zag lG k f (deep+1)) (hat:AtT f deep lo H H2 r L1 c q m E2) (hn0:¬ q < 6) (hp0:q < 8):Wp Try.prog (zK pls lG) 55 156 zbj E2 H2 (zcC k f deep lo H r L1 c q m):=by
 obtain⟨hd,hrl,hlo,n2,g2,o2',hr2,hL1,hm,hqd,k0,k1,k2,k6,k8,k9,k10⟩:=hat
 have hkeep:(zK pls lG).keep 55=false:=rfl
 have hq2:(2:Int)≠0:=by decide
 have hlen0:((yB f).length:Int)≠0:=by rcases zbi f with h|h<;>rw[h]<;>decide
 obtain⟨hi0,hix⟩:=zah (yB f) hlen0 hm.1 []
 have hxs:=zko hm.1
 have hxa:=zdy hm.1
 have hxf:=zgZ hm.1
 have er:(H.next == r)=false:=zP (by omega)
 have e41:=zJ f 4 1 L1
 have e50:=zJ f 5 0 L1
 have e32:=zJ f 3 2 L1
 have hwd:IntKind.wrap .i64 ((deep:Int)+1)=((deep+1:Nat):Int):=z9 (by omega)
 unfold zcC
 generalize hR:jF (zja f k deep) f L1 c q m=R
 rw[jF]at hR
 dsimp only[zbj,scR,zd8]
 repeat' (first
  | (apply Rx.nl ?_;clear hK K)|apply Ry.o ?_|(apply Ry.cd (fun hb hbp=>?_) (fun hb hbp=>?_)<;>try (cases hb;done))|apply Wp.seq ?_|(apply zd fun K hK=>?_)|(apply zf 8 [(3,9),(3,11),(6,9),(6,11)] fun K hK=>?_)|(apply zf 10 [(0,7),(0,10),(0,12),(4,7),(4,10),(4,12)] fun K hK=>?_)|(apply zf 24 [(3,14),(6,14),(7,14),(11,14),(13,14)] fun K hK=>?_)|(apply zf 28 [(1,4),(1,6),(5,6)] fun K hK=>?_)|(apply zw ?_;try intro _)|(apply zx ?_ ?_<;>clear hK K)|apply WpT.step ?_|apply zo rfl ?_|apply Wp.block ?_|apply Rx.rt ?_)

 refine WpL.call rfl eVk eAk ?_;simp only[List.cons_append,List.nil_append,List.append_nil]
 refine zr.mono ?_ (js hG 3 f 2 (by omega) (by omega) lo _ r L1 c (hr2.keep (Nat.le_succ _) fun q hq=>by rw[za,if_neg (by omega)]) (by omega))
 rintro v H4 ⟨⟨al,rfl,ha1,ha2,ha3⟩,hr4,n4,o4⟩
 simp only[zb]at n4 o4 ha3
 obtain⟨a0,a1,a2,a3,a4,rfl⟩:=zcJ ha1
 obtain⟨u0,u1,u2,u3,u4⟩:=zi9 ha2
 have g4s:H4.get (H.next+1)=some (.cells [.str [97],.str [98]] 0 true):=by rw[o4 _ (by omega) (by omega),za,if_pos (by omega)]
 dsimp only[zA]
 repeat' (first
  | (apply Rx.nl ?_;clear hK K)|apply Rx.o ?_|apply Rx.on ?_|apply Wp.seq ?_|(apply zd fun K hK=>?_)|(apply zf 8 [(3,9),(3,11),(6,9),(6,11)] fun K hK=>?_)|(apply zf 10 [(0,7),(0,10),(0,12),(4,7),(4,10),(4,12)] fun K hK=>?_)|(apply zf 24 [(3,14),(6,14),(7,14),(11,14),(13,14)] fun K hK=>?_)|(apply zf 28 [(1,4),(1,6),(5,6)] fun K hK=>?_)|(apply zw ?_;try intro _)|(apply zx ?_ ?_<;>clear hK K)|apply WpT.step ?_|apply zo rfl ?_|apply Wp.block ?_|apply Rx.rt ?_)
 refine WpL.call rfl eVk eAk ?_;simp only[List.cons_append,List.nil_append,List.append_nil]
 refine zr.mono ?_ (js hG 4 f 1 (by omega) (by omega) lo H4 r _ c hr4 (by omega))
 rintro v H5 ⟨⟨cs,rfl,hc1,hc2,hc3⟩,hr5,n5,o5⟩
 obtain⟨v0,v1,v2,v3,v4,rfl⟩:=zcJ hc1
 obtain⟨w0,w1,w2,w3,w4⟩:=zi9 hc2
 have g5s:H5.get (H.next+1)=some (.cells [.str [97],.str [98]] 0 true):=by rw[o5 _ (by omega) (by omega)];exact g4s
 have g5:H5.get H.next=some (.cells [.int .i64 0,.str [],.str [],.int .i64 0,.int .i64 0,.int .i64 0,.str [],.int .i64 0,.nilS,.int .i64 0,.int .i64 0,.str [],.int .i64 0,.nilS,.nilS,.nilS,.nilS] 0 true):=by rw[o5 _ (by omega) (by omega),o4 _ (by omega) (by omega),za,if_neg (by omega)];exact g2
 dsimp only[zA]
 repeat' (first
  | (apply Rx.nl ?_;clear hK K)|apply Rx.o ?_|apply Rx.on ?_|apply Wp.seq ?_|(apply zd fun K hK=>?_)|(apply zf 8 [(3,9),(3,11),(6,9),(6,11)] fun K hK=>?_)|(apply zf 10 [(0,7),(0,10),(0,12),(4,7),(4,10),(4,12)] fun K hK=>?_)|(apply zf 24 [(3,14),(6,14),(7,14),(11,14),(13,14)] fun K hK=>?_)|(apply zf 28 [(1,4),(1,6),(5,6)] fun K hK=>?_)|(apply zw ?_;try intro _)|(apply zx ?_ ?_<;>clear hK K)|apply WpT.step ?_|apply zo rfl ?_|apply Wp.block ?_|apply Rx.rt ?_)
 ·exact eK
 ·refine⟨eI,_,(by(try simp only[sB,sO,Nat.reduceBEq,Nat.reduceAdd,Nat.reduceLeDiff,tyF,zQ,yb,ziL, *]);first|done|with_reducible rfl),?_⟩;try simp only[zp]
  rw[if_neg (by omega),if_pos (by omega)]at hR
  subst hR
  refine zfe rfl (by simp only[List.all_cons,List.all_nil,u0,u1,u2,u3,u4,w0,w1,w2,w3,w4,Bool.and_true];rfl) (zdz (n:=8+k) 2 _ [] 0 ((ha3.up (by omega)).keep2 (fun q _ hq=>by omega) (by simp only[ze];omega) fun q h1 h2=>by rw[Hp.get_set,if_neg (by omega),o5 _ (by omega) (by omega)]) ((hc3.up (by omega)).keep2 (fun q _ hq=>by omega) (by simp only[ze];omega) fun q h1 h2=>by rw[Hp.get_set,if_neg (by omega)]) .nilS .nilS .nilS) ?_ ?_ ?_
  ·exact hr5.keep (by simp only[ze];omega) fun q hq=>by rw[Hp.get_set,if_neg (by omega)]
  ·simp only[ze];omega
  ·intro q h1 h2
   rw[Hp.get_set,if_neg (by omega),o5 _ (by omega) h2,o4 _ (by omega) h2,za,if_neg (by omega)]
   exact o2' q h1 h2
set_option maxRecDepth 100000 in
theorem zrG {lG:List En} (hG:GenL lG) {k:Nat}{f:Int}{deep lo:Nat}{H H2:Hp}{r:Nat}{L1:List Int}{c q m:Int}{E2:Env} (hst:deep≤2→zag lG k f (deep+1)) (hat:AtT f deep lo H H2 r L1 c q m E2) (hn0:¬ q < 6) (hn1:¬ q < 8) (hn2:¬ q < 10) (hn3:¬ q < 12) (hp0:q < 14):Wp Try.prog (zK pls lG) 55 156 zbj E2 H2 (zcC k f deep lo H r L1 c q m):=by
 obtain⟨hd,hrl,hlo,n2,g2,o2',hr2,hL1,hm,hqd,k0,k1,k2,k6,k8,k9,k10⟩:=hat
 have hkeep:(zK pls lG).keep 55=false:=rfl
 have hq2:(2:Int)≠0:=by decide
 have hlen0:((yB f).length:Int)≠0:=by rcases zbi f with h|h<;>rw[h]<;>decide
 obtain⟨hi0,hix⟩:=zah (yB f) hlen0 hm.1 []
 have hxs:=zko hm.1
 have hxa:=zdy hm.1
 have hxf:=zgZ hm.1
 have er:(H.next == r)=false:=zP (by omega)
 have e41:=zJ f 4 1 L1
 have e50:=zJ f 5 0 L1
 have e32:=zJ f 3 2 L1
 have hwd:IntKind.wrap .i64 ((deep:Int)+1)=((deep+1:Nat):Int):=z9 (by omega)
 unfold zcC
 generalize hR:jF (zja f k deep) f L1 c q m=R
 rw[jF]at hR
 dsimp only[zbj,scR,zd8]
 repeat' (first
  | (apply Rx.nl ?_;clear hK K)|apply Ry.o ?_|(apply Ry.cd (fun hb hbp=>?_) (fun hb hbp=>?_)<;>try (cases hb;done))|apply Wp.seq ?_|(apply zd fun K hK=>?_)|apply Wp.block ?_|apply Rx.rt ?_)

 refine WpL.call rfl eVk eAk ?_;simp only[List.cons_append,List.nil_append,List.append_nil]
 refine zr.mono ?_ (js hG 4 f 1 (by omega) (by omega) lo _ r L1 c hr2 (by omega))
 rintro v H4 ⟨⟨cs,rfl,hc1,hc2,hc3⟩,hr4,n4,o4⟩
 obtain⟨v0,v1,v2,v3,v4,rfl⟩:=zcJ hc1
 obtain⟨w0,w1,w2,w3,w4⟩:=zi9 hc2
 have g4:H4.get H.next=some (.cells [.int .i64 0,.str [],.str [],.int .i64 0,.int .i64 0,.int .i64 0,.str [],.int .i64 0,.nilS,.int .i64 0,.int .i64 0,.str [],.int .i64 0,.nilS,.nilS,.nilS,.nilS] 0 true):=by rw[o4 _ (by omega) (by omega)];exact g2
 dsimp only[zA]
 repeat' (first
  | (apply Rx.nl ?_;clear hK K)|apply Rx.o ?_|apply Rx.on ?_|apply Wp.seq ?_|(apply zd fun K hK=>?_)|apply Wp.block ?_|apply Rx.rt ?_)
 refine⟨eI,_,(by(try simp only[sB,sO,Nat.reduceBEq,Nat.reduceAdd,Nat.reduceLeDiff,tyF,zQ,yb,ziL, *]);first|done|with_reducible rfl),?_⟩;try simp only[zp]
 rw[if_neg (by omega),if_neg (by omega),if_neg (by omega),if_neg (by omega),if_pos (by omega)]at hR
 subst hR
 refine zfe rfl (by simp only[List.all_cons,List.all_nil,w0,w1,w2,w3,w4,Bool.and_true];rfl) (zdz (n:=8+k) 5 [] [] 0 zlO ((hc3.up (by omega)).keep2 (fun q _ hq=>by omega) (by simp only[ze];omega) fun q h1 h2=>by rw[Hp.get_set,if_neg (by omega)]) .nilS .nilS .nilS) ?_ ?_ ?_
 ·exact hr4.keep (by simp only[ze];omega) fun q hq=>by rw[Hp.get_set,if_neg (by omega)]
 ·simp only[ze];omega
 ·intro q h1 h2
  rw[Hp.get_set,if_neg (by omega),o4 _ (by omega) h2]
  exact o2' q h1 h2
set_option maxRecDepth 100000 in
theorem zpy {lG:List En} (hG:GenL lG) {k:Nat}{f:Int}{deep lo:Nat}{H H2:Hp}{r:Nat}{L1:List Int}{c q m:Int}{E2:Env} (hst:deep≤2→zag lG k f (deep+1)) (hat:AtT f deep lo H H2 r L1 c q m E2) (hn0:¬ q < 6) (hn1:¬ q < 8) (hn2:¬ q < 10) (hn3:¬ q < 12) (hn4:¬ q < 14) (hn5:¬ q < 15)  : Wp Try.prog (zK pls lG) 55 156 zbj E2 H2 (zcC k f deep lo H r L1 c q m):=by
 obtain⟨hd,hrl,hlo,n2,g2,o2',hr2,hL1,hm,hqd,k0,k1,k2,k6,k8,k9,k10⟩:=hat
 have hkeep:(zK pls lG).keep 55=false:=rfl
 have hq2:(2:Int)≠0:=by decide
 have hlen0:((yB f).length:Int)≠0:=by rcases zbi f with h|h<;>rw[h]<;>decide
 obtain⟨hi0,hix⟩:=zah (yB f) hlen0 hm.1 []
 have hxs:=zko hm.1
 have hxa:=zdy hm.1
 have hxf:=zgZ hm.1
 have er:(H.next == r)=false:=zP (by omega)
 have e41:=zJ f 4 1 L1
 have e50:=zJ f 5 0 L1
 have e32:=zJ f 3 2 L1
 have hwd:IntKind.wrap .i64 ((deep:Int)+1)=((deep+1:Nat):Int):=z9 (by omega)
 unfold zcC
 generalize hR:jF (zja f k deep) f L1 c q m=R
 rw[jF]at hR
 dsimp only[zbj,scR,zd8]
 repeat' (first
  | (apply Rx.nl ?_;clear hK K)|apply Ry.o ?_|apply Ry.on ?_|(apply Ry.cd (fun hb hbp=>?_) (fun hb hbp=>?_)<;>try (cases hb;done))|apply Wp.seq ?_|(apply zd fun K hK=>?_)|apply Wp.block ?_|apply zh ?_|apply Rx.rt ?_)

 refine⟨eI,_,(by(try simp only[sB,sO,Nat.reduceBEq,Nat.reduceAdd,Nat.reduceLeDiff,tyF,zQ,yb,ziL, *]);first|done|with_reducible rfl),?_⟩;try simp only[zp]
 rw[if_neg (by omega),if_neg (by omega),if_neg (by omega),if_neg (by omega),if_neg (by omega),if_neg (by omega)]at hR
 subst hR
 refine zfe rfl rfl (zdz (n:=8+k) 7 [] [] _ zlO zlO .nilS .nilS .nilS) ?_ ?_ ?_
 ·exact hr2.keep (by simp only[ze];omega) fun q hq=>by rw[Hp.get_set,if_neg (by omega)]
 ·simp only[ze];omega
 ·intro q h1 h2
  rw[Hp.get_set,if_neg (by omega)]
  exact o2' q h1 h2
end Go.Proofs.Ytpbcimfiofmoeaa
namespace Go.Proofs.Ytpbcimfiofmoeaa
set_option maxRecDepth 20000
set_option maxRecDepth 20000
open Go Go.Ab
namespace tyG5b
def tyF:=And.intro @tq3 (And.intro @tq9 (And.intro @zcV (And.intro @zcc (And.intro @za9 (And.intro @zba (And.intro @zau (And.intro @zbw (And.intro @tq77 (And.intro @zhh (And.intro @kb7 (And.intro @ziL (And.intro @nms2 (And.intro @kb3 (And.intro @zS17 (@kb6)))))))))))))))
end tyG5b
open tyG5b
set_option maxRecDepth 100000 in
theorem zvz {lG:List En} (hG:GenL lG) {k:Nat}{f:Int}{deep lo:Nat}{H H2:Hp}{r:Nat}{L1:List Int}{c q m:Int}{E2:Env} (hst:deep≤2→zag lG k f (deep+1)) (hat:AtT f deep lo H H2 r L1 c q m E2) (hn0:¬ q < 6) (hn1:¬ q < 8) (hp0:q < 10):Wp Try.prog (zK pls lG) 55 156 zbj E2 H2 (zcC k f deep lo H r L1 c q m):=by
 obtain⟨hd,hrl,hlo,n2,g2,o2',hr2,hL1,hm,hqd,k0,k1,k2,k6,k8,k9,k10⟩:=hat
 have hkeep:(zK pls lG).keep 55=false:=rfl
 have hq2:(2:Int)≠0:=by decide
 have hlen0:((yB f).length:Int)≠0:=by rcases zbi f with h|h<;>rw[h]<;>decide
 obtain⟨hi0,hix⟩:=zah (yB f) hlen0 hm.1 []
 have hxs:=zko hm.1
 have hxa:=zdy hm.1
 have hxf:=zgZ hm.1
 have er:(H.next == r)=false:=zP (by omega)
 have e41:=zJ f 4 1 L1
 have e50:=zJ f 5 0 L1
 have e32:=zJ f 3 2 L1
 have hwd:IntKind.wrap .i64 ((deep:Int)+1)=((deep+1:Nat):Int):=z9 (by omega)
 unfold zcC
 generalize hR:jF (zja f k deep) f L1 c q m=R
 rw[jF]at hR
 dsimp only[zbj,scR,zd8]
 repeat' (first
  | (apply Rx.nl ?_;clear hK K)|apply Ry.o ?_|(apply Ry.cd (fun hb hbp=>?_) (fun hb hbp=>?_)<;>try (cases hb;done))|apply Wp.seq ?_|(apply zd fun K hK=>?_)|apply Wp.block ?_|apply Rx.rt ?_)

 refine WpL.call rfl eVk eAk ?_;simp only[List.cons_append,List.nil_append,List.append_nil]
 refine zr.mono ?_ (js hG 4 f 1 (by omega) (by omega) lo _ r L1 c hr2 (by omega))
 rintro v H4 ⟨⟨cs,rfl,hc1,hc2,hc3⟩,hr4,n4,o4⟩
 obtain⟨v0,v1,v2,v3,v4,rfl⟩:=zcJ hc1
 obtain⟨w0,w1,w2,w3,w4⟩:=zi9 hc2
 dsimp only[zA]
 repeat' (first
  | (apply Rx.nl ?_;clear hK K)|apply Rx.o ?_|apply Rx.on ?_|apply Wp.seq ?_|(apply zd fun K hK=>?_)|apply Wp.block ?_|apply Rx.rt ?_)
 generalize hHa:Hp.set (Hp.alloc H4 _) H4.next _=Ha
 have na:Ha.next=H4.next+1:=by rw[← hHa];rfl
 have oa:∀ q,q < H4.next→Ha.get q=H4.get q:=fun q hq=>by rw[← hHa,Hp.get_set,if_neg (by omega),za,if_neg (by omega)]
 have ga:Ha.get H4.next=some (.cells [.int .i64 3,.str [],.str [],.int .i64 0,.int .i64 0,.int .i64 0,.str [],.int .i64 0,.nilS,v0,v1,v2,v3,v4,.nilS,.nilS,.nilS] 0 true):=by rw[← hHa,Hp.get_set,if_pos rfl]
 clear hHa
 refine WpL.call rfl eVk eAk ?_;simp only[List.cons_append,List.nil_append,List.append_nil]
 refine zr.mono ?_ (zea hG (hst (by omega)) 3 (by omega) (by omega) lo Ha r ((zD f 4 1 L1).2,c) (hr4.keep (by omega) fun q hq=>oa q (by omega)) (by simp only[];omega))
 rintro tv H5 ⟨hrow5,hr5,n5,o5⟩
 have hl5:(zad f k (deep+1) 3 ((zD f 4 1 L1).2,c)).2.1.length≤(zD f 4 1 L1).2.length:=Nat.le_trans (zd9 (zc3 f k (deep+1)) _ _) (yM _)
 obtain⟨t1,t2⟩:=hrow5.one
 have g5:H5.get H4.next=some (.cells [.int .i64 3,.str [],.str [],.int .i64 0,.int .i64 0,.int .i64 0,.str [],.int .i64 0,.nilS,v0,v1,v2,v3,v4,.nilS,.nilS,.nilS] 0 true):=by rw[o5 _ (by omega) (by omega)];exact ga
 dsimp only[zA]
 repeat' (first
  | (apply Rx.nl ?_;clear hK K)|apply Rx.o ?_|apply Rx.on ?_|apply Wp.seq ?_|(apply zd fun K hK=>?_)|apply Wp.block ?_|apply Rx.rt ?_)
 generalize hHb:Hp.set H5 H4.next _=Hb
 have nb:Hb.next=H5.next:=by rw[← hHb];rfl
 have ob:∀ q,q≠H4.next→Hb.get q=H5.get q:=fun q hq=>by rw[← hHb,Hp.get_set,if_neg hq]
 have gb:Hb.get H4.next=some (.cells [.int .i64 3,.str [],.str [],.int .i64 0,.int .i64 0,.int .i64 0,.str [],.int .i64 0,.nilS,v0,v1,v2,v3,v4,.nilS,tv,.nilS] 0 true):=by rw[← hHb,Hp.get_set,if_pos rfl]
 clear hHb
 refine WpL.call rfl eVk eAk ?_;simp only[List.cons_append,List.nil_append,List.append_nil]
 refine zr.mono ?_ (zea hG (hst (by omega)) 2 (by omega) (by omega) lo Hb r (zad f k (deep+1) 3 ((zD f 4 1 L1).2,c)).2 (hr5.keep (by omega) fun q hq=>ob q (by omega)) (by omega))
 rintro uv H6 ⟨hrow6,hr6,n6,o6⟩
 obtain⟨p1,p2⟩:=hrow6.one
 have g6t:H6.get H4.next=some (.cells [.int .i64 3,.str [],.str [],.int .i64 0,.int .i64 0,.int .i64 0,.str [],.int .i64 0,.nilS,v0,v1,v2,v3,v4,.nilS,tv,.nilS] 0 true):=by rw[o6 _ (by omega) (by omega)];exact gb
 have g6:H6.get H.next=some (.cells [.int .i64 0,.str [],.str [],.int .i64 0,.int .i64 0,.int .i64 0,.str [],.int .i64 0,.nilS,.int .i64 0,.int .i64 0,.str [],.int .i64 0,.nilS,.nilS,.nilS,.nilS] 0 true):=by rw[o6 _ (by omega) (by omega),ob _ (by omega),o5 _ (by omega) (by omega),oa _ (by omega),o4 _ (by omega) (by omega)];exact g2
 have e46:(H.next == H4.next)=false:=zP (by omega)
 have e64:(H4.next == H.next)=false:=zP (by omega)
 dsimp only[zA]
 repeat' (first
  | (apply Rx.nl ?_;clear hK K)|apply Rx.o ?_|apply Rx.on ?_|apply Wp.seq ?_|(apply zd fun K hK=>?_)|apply Wp.block ?_|apply Rx.rt ?_)
 refine⟨eI,_,(by(try simp only[sB,sO,Nat.reduceBEq,Nat.reduceAdd,Nat.reduceLeDiff,tyF,zQ,yb,ziL, *]);first|done|with_reducible rfl),?_⟩;try simp only[zp]
 rw[if_neg (by omega),if_neg (by omega),if_pos (by omega)]at hR
 subst hR
 have hk6:∀ q,Hb.next≤q→q < H6.next→((H6.set H4.next (.cells [.int .i64 3,.str [],.str [],.int .i64 0,.int .i64 0,.int .i64 0,.str [],.int .i64 0,.nilS,v0,v1,v2,v3,v4,.nilS,tv,uv] 0 true)).set H.next (.cells [.int .i64 3,.str [],.str [],.int .i64 0,.int .i64 0,.int .i64 0,.str [],.int .i64 0,.nilS,v0,v1,v2,v3,v4,.nilS,tv,uv] 0 true)).get q=H6.get q:=fun q h1 h2=>by rw[Hp.get_set,if_neg (by omega),Hp.get_set,if_neg (by omega)]
 have hk5:∀ q,Ha.next≤q→q < H5.next→((H6.set H4.next (.cells [.int .i64 3,.str [],.str [],.int .i64 0,.int .i64 0,.int .i64 0,.str [],.int .i64 0,.nilS,v0,v1,v2,v3,v4,.nilS,tv,uv] 0 true)).set H.next (.cells [.int .i64 3,.str [],.str [],.int .i64 0,.int .i64 0,.int .i64 0,.str [],.int .i64 0,.nilS,v0,v1,v2,v3,v4,.nilS,tv,uv] 0 true)).get q=H5.get q:=fun q h1 h2=>by rw[Hp.get_set,if_neg (by omega),Hp.get_set,if_neg (by omega),o6 _ (by omega) (by omega),ob _ (by omega)]
 refine zfe rfl (by simp only[List.all_cons,List.all_nil,w0,w1,w2,w3,w4,t1,p1,Bool.and_true];rfl) (zdz (n:=8+k) 3 [] [] 0 zlO ((hc3.up (by omega)).keep2 (fun q _ hq=>by omega) (by simp only[ze];omega) fun q h1 h2=>by rw[Hp.get_set,if_neg (by omega),Hp.get_set,if_neg (by omega),o6 _ (by omega) (by omega),ob _ (by omega),o5 _ (by omega) (by omega),oa _ (by omega)]) .nilS (hrow5.keep (fun q _ hq=>by omega) (by simp only[ze];omega) fun q h1 h2=>hk5 q h1 h2).rd (hrow6.keep (fun q _ hq=>by omega) (by simp only[ze];omega) fun q h1 h2=>hk6 q h1 h2).rd) ?_ ?_ ?_
 ·exact hr6.keep (by simp only[ze];omega) fun q hq=>by rw[Hp.get_set,if_neg (by omega),Hp.get_set,if_neg (by omega)]
 ·simp only[ze];omega
 ·intro q h1 h2
  rw[Hp.get_set,if_neg (by omega),Hp.get_set,if_neg (by omega),o6 _ (by omega) h2,ob _ (by omega),o5 _ (by omega) h2,oa _ (by omega),o4 _ (by omega) h2]
  exact o2' q h1 h2
set_option maxRecDepth 100000 in
theorem znj {lG:List En} (hG:GenL lG) {k:Nat}{f:Int}{deep lo:Nat}{H H2:Hp}{r:Nat}{L1:List Int}{c q m:Int}{E2:Env} (hst:deep≤2→zag lG k f (deep+1)) (hat:AtT f deep lo H H2 r L1 c q m E2) (hn0:¬ q < 6) (hn1:¬ q < 8) (hn2:¬ q < 10) (hp0:q < 12):Wp Try.prog (zK pls lG) 55 156 zbj E2 H2 (zcC k f deep lo H r L1 c q m):=by
 obtain⟨hd,hrl,hlo,n2,g2,o2',hr2,hL1,hm,hqd,k0,k1,k2,k6,k8,k9,k10⟩:=hat
 have hkeep:(zK pls lG).keep 55=false:=rfl
 have hq2:(2:Int)≠0:=by decide
 have hlen0:((yB f).length:Int)≠0:=by rcases zbi f with h|h<;>rw[h]<;>decide
 obtain⟨hi0,hix⟩:=zah (yB f) hlen0 hm.1 []
 have hxs:=zko hm.1
 have hxa:=zdy hm.1
 have hxf:=zgZ hm.1
 have er:(H.next == r)=false:=zP (by omega)
 have e41:=zJ f 4 1 L1
 have e50:=zJ f 5 0 L1
 have e32:=zJ f 3 2 L1
 have hwd:IntKind.wrap .i64 ((deep:Int)+1)=((deep+1:Nat):Int):=z9 (by omega)
 unfold zcC
 generalize hR:jF (zja f k deep) f L1 c q m=R
 rw[jF]at hR
 dsimp only[zbj,scR,zd8]
 repeat' (first
  | (apply Rx.nl ?_;clear hK K)|apply Ry.o ?_|(apply Ry.cd (fun hb hbp=>?_) (fun hb hbp=>?_)<;>try (cases hb;done))|apply Wp.seq ?_|(apply zd fun K hK=>?_)|apply Wp.block ?_|apply Rx.rt ?_)

 obtain⟨lv,hg,htick⟩:=hr2.tick
 have hcw:IntKind.wrap .i64 (c+1)=w64 (c+1):=rfl
 repeat' (first
  | (apply Rx.nl ?_;clear hK K)|apply Rx.o ?_|apply Rx.on ?_|apply Wp.seq ?_|(apply zd fun K hK=>?_)|apply Wp.block ?_|apply Rx.rt ?_)
 generalize hHt:Hp.set _ r _=Ht
 have nt:Ht.next=H.next+1:=by rw[← hHt];simpa using n2
 have ot:∀ q,q≠r→Ht.get q=_:=fun q hq=>by rw[← hHt,Hp.get_set,if_neg hq]
 have hrt:zcl lo Ht r L1 (w64 (c+1)):=by rw[← hHt];exact htick _
 have gt:Ht.get H.next=some (.cells [.int .i64 0,.str [],.str [],.int .i64 0,.int .i64 0,.int .i64 0,.str [],.int .i64 0,.nilS,.int .i64 0,.int .i64 0,.str [],.int .i64 0,.nilS,.nilS,.nilS,.nilS] 0 true):=by rw[ot _ (by omega)];exact g2
 clear hHt
 refine WpL.call rfl eVk eAk ?_;simp only[List.cons_append,List.nil_append,List.append_nil]
 refine zr.mono ?_ (js hG 4 f 1 (by omega) (by omega) lo Ht r L1 _ hrt (by omega))
 rintro v H4 ⟨⟨cs,rfl,hc1,hc2,hc3⟩,hr4,n4,o4⟩
 obtain⟨v0,v1,v2,v3,v4,rfl⟩:=zcJ hc1
 obtain⟨w0,w1,w2,w3,w4⟩:=zi9 hc2
 dsimp only[zA]
 repeat' (first
  | (apply Rx.nl ?_;clear hK K)|apply Rx.o ?_|apply Rx.on ?_|apply Wp.seq ?_|(apply zd fun K hK=>?_)|apply Wp.block ?_|apply Rx.rt ?_)
 generalize hHa:Hp.set (Hp.alloc H4 _) H4.next _=Ha
 have na:Ha.next=H4.next+1:=by rw[← hHa];rfl
 have oa:∀ q,q < H4.next→Ha.get q=H4.get q:=fun q hq=>by rw[← hHa,Hp.get_set,if_neg (by omega),za,if_neg (by omega)]
 have ga:Ha.get H4.next=some (.cells [.int .i64 4,.str [],.str [],.int .i64 0,.int .i64 0,.int .i64 0,.str [],.int .i64 0,.nilS,v0,v1,v2,v3,v4,.nilS,.nilS,.nilS] 0 true):=by rw[← hHa,Hp.get_set,if_pos rfl]
 clear hHa
 refine WpL.call rfl eVk eAk ?_;simp only[List.cons_append,List.nil_append,List.append_nil]
 refine zr.mono ?_ (zea hG (hst (by omega)) 3 (by omega) (by omega) lo Ha r ((zD f 4 1 L1).2,w64 (c+1)) (hr4.keep (by omega) fun q hq=>oa q (by omega)) (by simp only[];omega))
 rintro tv H5 ⟨hrow5,hr5,n5,o5⟩
 obtain⟨t1,t2⟩:=hrow5.one
 have g5:H5.get H4.next=some (.cells [.int .i64 4,.str [],.str [],.int .i64 0,.int .i64 0,.int .i64 0,.str [],.int .i64 0,.nilS,v0,v1,v2,v3,v4,.nilS,.nilS,.nilS] 0 true):=by rw[o5 _ (by omega) (by omega)];exact ga
 have g6:H5.get H.next=some (.cells [.int .i64 0,.str [],.str [],.int .i64 0,.int .i64 0,.int .i64 0,.str [],.int .i64 0,.nilS,.int .i64 0,.int .i64 0,.str [],.int .i64 0,.nilS,.nilS,.nilS,.nilS] 0 true):=by rw[o5 _ (by omega) (by omega),oa _ (by omega),o4 _ (by omega) (by omega)];exact gt
 have e46:(H.next == H4.next)=false:=zP (by omega)
 have e64:(H4.next == H.next)=false:=zP (by omega)
 dsimp only[zA]
 repeat' (first
  | (apply Rx.nl ?_;clear hK K)|apply Rx.o ?_|apply Rx.on ?_|apply Wp.seq ?_|(apply zd fun K hK=>?_)|apply Wp.block ?_|apply Rx.rt ?_)
 refine⟨eI,_,(by(try simp only[sB,sO,Nat.reduceBEq,Nat.reduceAdd,Nat.reduceLeDiff,tyF,zQ,yb,ziL, *]);first|done|with_reducible rfl),?_⟩;try simp only[zp]
 rw[if_neg (by omega),if_neg (by omega),if_neg (by omega),if_pos (by omega)]at hR
 subst hR
 have hk5:∀ q,Ha.next≤q→q < H5.next→((H5.set H4.next (.cells [.int .i64 4,.str [],.str [],.int .i64 0,.int .i64 0,.int .i64 0,.str [],.int .i64 0,.nilS,v0,v1,v2,v3,v4,.nilS,tv,.nilS] 0 true)).set H.next (.cells [.int .i64 4,.str [],.str [],.int .i64 0,.int .i64 0,.int .i64 0,.str [],.int .i64 0,.nilS,v0,v1,v2,v3,v4,.nilS,tv,.nilS] 0 true)).get q=H5.get q:=fun q h1 h2=>by rw[Hp.get_set,if_neg (by omega),Hp.get_set,if_neg (by omega)]
 refine zfe rfl (by simp only[List.all_cons,List.all_nil,w0,w1,w2,w3,w4,t1,Bool.and_true];rfl) (zdz (n:=8+k) 4 [] [] 0 zlO ((hc3.up (by omega)).keep2 (fun q _ hq=>by omega) (by simp only[ze];omega) fun q h1 h2=>by rw[Hp.get_set,if_neg (by omega),Hp.get_set,if_neg (by omega),o5 _ (by omega) (by omega),oa _ (by omega)]) .nilS (hrow5.keep (fun q _ hq=>by omega) (by simp only[ze];omega) fun q h1 h2=>hk5 q h1 h2).rd .nilS) ?_ ?_ ?_
 ·exact hr5.keep (by simp only[ze];omega) fun q hq=>by rw[Hp.get_set,if_neg (by omega),Hp.get_set,if_neg (by omega)]
 ·simp only[ze];omega
 ·intro q h1 h2
  rw[Hp.get_set,if_neg (by omega),Hp.get_set,if_neg (by omega),o5 _ (by omega) h2,oa _ (by omega),o4 _ (by omega) h2,ot _ h2]
  exact o2' q h1 h2
set_option maxRecDepth 100000 in
theorem zpz {lG:List En} (hG:GenL lG) {k:Nat}{f:Int}{deep lo:Nat}{H H2:Hp}{r:Nat}{L1:List Int}{c q m:Int}{E2:Env} (hst:deep≤2→zag lG k f (deep+1)) (hat:AtT f deep lo H H2 r L1 c q m E2) (hn0:¬ q < 6) (hn1:¬ q < 8) (hn2:¬ q < 10) (hn3:¬ q < 12) (hn4:¬ q < 14) (hp0:q < 15):Wp Try.prog (zK pls lG) 55 156 zbj E2 H2 (zcC k f deep lo H r L1 c q m):=by
 obtain⟨hd,hrl,hlo,n2,g2,o2',hr2,hL1,hm,hqd,k0,k1,k2,k6,k8,k9,k10⟩:=hat
 have hkeep:(zK pls lG).keep 55=false:=rfl
 have hq2:(2:Int)≠0:=by decide
 have hlen0:((yB f).length:Int)≠0:=by rcases zbi f with h|h<;>rw[h]<;>decide
 obtain⟨hi0,hix⟩:=zah (yB f) hlen0 hm.1 []
 have hxs:=zko hm.1
 have hxa:=zdy hm.1
 have hxf:=zgZ hm.1
 have er:(H.next == r)=false:=zP (by omega)
 have e41:=zJ f 4 1 L1
 have e50:=zJ f 5 0 L1
 have e32:=zJ f 3 2 L1
 have hwd:IntKind.wrap .i64 ((deep:Int)+1)=((deep+1:Nat):Int):=z9 (by omega)
 unfold zcC
 generalize hR:jF (zja f k deep) f L1 c q m=R
 rw[jF]at hR
 dsimp only[zbj,scR,zd8]
 repeat' (first
  | (apply Rx.nl ?_;clear hK K)|apply Ry.o ?_|apply Ry.on ?_|(apply Ry.cd (fun hb hbp=>?_) (fun hb hbp=>?_)<;>try (cases hb;done))|apply Wp.seq ?_|(apply zd fun K hK=>?_)|(apply zf 8 [(3,9),(3,11),(6,9),(6,11)] fun K hK=>?_)|(apply zf 10 [(0,7),(0,10),(0,12),(4,7),(4,10),(4,12)] fun K hK=>?_)|(apply zf 24 [(3,14),(6,14),(7,14),(11,14),(13,14)] fun K hK=>?_)|(apply zf 28 [(1,4),(1,6),(5,6)] fun K hK=>?_)|(apply zw ?_;try intro _)|(apply zx ?_ ?_<;>clear hK K)|apply WpT.step ?_|apply zo rfl ?_|apply Wp.block ?_|apply zh ?_|apply Rx.rt ?_|apply zk ?_)

 repeat' (first
  | (apply Rx.nl ?_;clear hK K)|apply Rx.o ?_|apply Rx.on ?_|(apply Rx.cd (fun hb hbp=>?_) (fun hb hbp=>?_)<;>try (cases hb;done))|apply Wp.seq ?_|(apply zd fun K hK=>?_)|(apply zf 8 [(3,9),(3,11),(6,9),(6,11)] fun K hK=>?_)|(apply zf 10 [(0,7),(0,10),(0,12),(4,7),(4,10),(4,12)] fun K hK=>?_)|(apply zf 24 [(3,14),(6,14),(7,14),(11,14),(13,14)] fun K hK=>?_)|(apply zf 28 [(1,4),(1,6),(5,6)] fun K hK=>?_)|(apply zw ?_;try intro _)|(apply zx ?_ ?_<;>clear hK K)|apply WpT.step ?_|apply zo rfl ?_|apply Wp.block ?_|apply zh ?_|apply Rx.rt ?_|apply zk ?_)
 ·exact eK
 generalize hHa:Hp.set (Hp.alloc (Hp.alloc _ _) _) _ _=Ha
 have na:Ha.next=H.next+3:=by rw[← hHa];simp only[ze,zb];omega
 have oa:∀ q,q < H.next→q≠r→Ha.get q=H.get q:=fun q h1 h2=>by
  rw[← hHa,Hp.get_set,if_neg (by omega),za,if_neg (by simp only[zb];omega),za,if_neg (by omega)];exact o2' q h1 h2
 have gz:Ha.get H.next=some (.cells [.int .i64 0,.str [],.str [],.int .i64 0,.int .i64 0,.int .i64 0,.str [],.int .i64 0,.nilS,.int .i64 0,.int .i64 0,.str [],.int .i64 0,.nilS,.nilS,.nilS,.nilS] 0 true):=by
  rw[← hHa,Hp.get_set,if_neg (by omega),za,if_neg (by simp only[zb];omega),za,if_neg (by omega)];exact g2
 have hra:zcl lo Ha r L1 c:=by
  rw[← hHa]
  exact hr2.keep (by simp only[ze,zb];omega) fun q hq=>by rw[Hp.get_set,if_neg (by omega),za,if_neg (by simp only[zb];omega),za,if_neg (by omega)]
 have ga:Ha.get (H.next+2)=some (.cells [.int .i64 6,.str ((yB f).getD (m.tmod (yB f).length).toNat []),.str (fgG m),.int .i64 0,.int .i64 0,.int .i64 0,.str [],.int .i64 0,.nilS,.int .i64 0,.int .i64 0,.str [],.int .i64 0,.nilS,.nilS,.nilS,.nilS] 0 true):=by rw[← hHa,Hp.get_set,if_pos (by omega)]
 clear hHa
 have htm:0≤m.tmod 2∧m.tmod 2 < 2:=tm2 hm.1
 have hw2:IntKind.wrap .i64 (2 - m.tmod 2)=2 - m.tmod 2:=zaV (by omega) (by omega)
 generalize hcnt:(2 - m.tmod 2).toNat=cnt at *
 have hcn:2 - m.tmod 2=(cnt:Int):=by omega
 rw[hcn]at hw2
 refine yd [0,1,6,9,13] [H.next] 14 cnt (fun j E H'=>∃ v es Lj,H'.get (H.next+2)=some (.cells [.int .i64 6,.str ((yB f).getD (m.tmod (yB f).length).toNat []),.str (fgG m),.int .i64 0,.int .i64 0,.int .i64 0,.str [],.int .i64 0,.nilS,.int .i64 0,.int .i64 0,.str [],.int .i64 0,.nilS,v,.nilS,.nilS] 0 true)∧yh (fun q=>H.next+3≤q) 4 H' 5 v (es.map Ex.cells)∧zcl lo H' r Lj c∧(∀ q,q < H.next→q≠r→H'.get q=H.get q)∧es.length=j∧Lj.length≤L1.length∧jI f cnt L1=(es++(jI f (cnt - j) Lj).1,(jI f (cnt - j) Lj).2)) eE ⟨.nilS,[],L1,ga,.inl ⟨rfl,rfl⟩,hra,oa,rfl,Nat.le_refl _,by simp⟩ ?_
 clear ga hra oa g2 hr2 o2'
 rintro j E3 H3 hj hcE hrH hnH hsI ⟨v,es,Lj,g3,hrow,hr3,o3,hel,hLj,hJ⟩
 (try simp only[zi,zl,and_true,sB,sO,Nat.reduceBEq,Nat.reduceAdd,Nat.reduceLeDiff,tyF,gz, *]at hcE)
 (try simp only[zi,zl,and_true,sB,sO,Nat.reduceBEq,Nat.reduceAdd,Nat.reduceLeDiff,tyF,gz, *]at hrH)
 (try simp only[zb,ze,zH,Nat.zero_add,Nat.reduceAdd]at hnH)
 have hB0:(H.next == H3.next)=false:=zP (by omega)
 have hC0:(H3.next == H.next)=false:=zP (by omega)
 have hle:H.next+3≤H3.next:=by omega
 have e02:(H.next == H.next+2)=false:=zP (by omega)
 have e20:(H.next+2 == H.next)=false:=zP (by omega)
 obtain⟨v1,v2⟩:=hrow.one
 repeat' (first
  | (apply Rx.nl ?_;clear hK K)|apply Rx.o ?_|apply Rx.on ?_|(apply Rx.cd (fun hb hbp=>?_) (fun hb hbp=>?_)<;>try (cases hb;done))|apply Wp.seq ?_|(apply zd fun K hK=>?_)|(apply zf 8 [(3,9),(3,11),(6,9),(6,11)] fun K hK=>?_)|(apply zf 10 [(0,7),(0,10),(0,12),(4,7),(4,10),(4,12)] fun K hK=>?_)|(apply zf 24 [(3,14),(6,14),(7,14),(11,14),(13,14)] fun K hK=>?_)|(apply zf 28 [(1,4),(1,6),(5,6)] fun K hK=>?_)|(apply zw ?_;try intro _)|(apply zx ?_ ?_<;>clear hK K)|apply WpT.step ?_|apply zo rfl ?_|apply Wp.block ?_|apply zh ?_|apply Rx.rt ?_|apply zk ?_)
 ·have hlt:j < cnt:=by omega
  refine WpL.call rfl eVk eAk ?_;simp only[List.cons_append,List.nil_append,List.append_nil]
  refine zr.mono ?_ (js hG 3 f 2 (by omega) (by omega) lo H3 r Lj c hr3 (by omega))
  rintro v' H4 ⟨⟨cs,rfl,hc1,hc2,hc3⟩,hr4,n4,o4⟩
  have hl4:=zJ f 3 2 Lj
  have g4:H4.get (H.next+2)=some (.cells [.int .i64 6,.str ((yB f).getD (m.tmod (yB f).length).toNat []),.str (fgG m),.int .i64 0,.int .i64 0,.int .i64 0,.str [],.int .i64 0,.nilS,.int .i64 0,.int .i64 0,.str [],.int .i64 0,.nilS,v,.nilS,.nilS] 0 true):=by rw[o4 _ (by omega) (by omega)];exact g3
  have g40:H4.get H.next=some (.cells [.int .i64 0,.str [],.str [],.int .i64 0,.int .i64 0,.int .i64 0,.str [],.int .i64 0,.nilS,.int .i64 0,.int .i64 0,.str [],.int .i64 0,.nilS,.nilS,.nilS,.nilS] 0 true):=by rw[o4 _ (by omega) (by omega)];exact hrH
  have kb:=fun H=>bsK1 H hc1 hc2
  have hvq:∀ q o m z',v=.sl q o m z'→H.next+3≤q∧q < H3.next:=fun q o m z' e=>by
   rcases hrow with ⟨rfl,_⟩|⟨q',imm,rows,rfl,e1,e2,_⟩
   ·cases e
   ·simp only[AV.sl.injEq]at e
    rw[← e.1];exact⟨e1,e2⟩
  have ob:∀ q,q < H4.next→(H4.alloc (.cells cs 0 true)).get q=H4.get q:=fun q hq=>by rw[za,if_neg (by omega)]
  have hrow4:yh (fun q=>H.next+3≤q) 4 (H4.alloc (.cells cs 0 true)) 5 v (es.map Ex.cells):=hrow.keep (fun q _ h=>h) (by simp only[zb];omega) fun q h1 h2=>by rw[ob _ (by omega),o4 q h2 (by omega)]
  have gcs:(H4.alloc (.cells cs 0 true)).get H4.next=some (.cells cs 0 true):=by rw[za,if_pos rfl]
  have g4b:(H4.alloc (.cells cs 0 true)).get (H.next+2)=some (.cells [.int .i64 6,.str ((yB f).getD (m.tmod (yB f).length).toNat []),.str (fgG m),.int .i64 0,.int .i64 0,.int .i64 0,.str [],.int .i64 0,.nilS,.int .i64 0,.int .i64 0,.str [],.int .i64 0,.nilS,v,.nilS,.nilS] 0 true):=by rw[ob _ (by omega)];exact g4
  obtain⟨v5,H5,a5,s5,n5,f5,q5⟩:=yh.push (P:=Try.prog) (t:=49) Try.underlying49 sz51 bt51 zr51 rfl (by kernel_rfl) hrow4 (by simp only[zb];omega) (r:=H4.next) (imm:=0) (row:=cs) (w:=(zD f 3 2 Lj).1.cells) gcs hc1 hc2 (hc3.keep2 (fun q h1 h2=>⟨by omega,fun o m z' e=>by have:=(hvq q o m z' e).2;omega⟩) (Nat.le_succ _) fun q h1 h2=>ob q h2) (by simp only[List.length_map,zW];omega) (by simp only[List.length_map,zW];omega)
  simp only[zb]at n5 f5
  have o5:∀ q,q < H4.next→q < H.next+3→H5.get q=H4.get q:=fun q h1 h2=>by rw[f5 q (by omega) (fun o m z' e=>by have:=(hvq q o m z' e).1;omega),ob q h1]
  have g5:H5.get (H.next+2)=some (.cells [.int .i64 6,.str ((yB f).getD (m.tmod (yB f).length).toNat []),.str (fgG m),.int .i64 0,.int .i64 0,.int .i64 0,.str [],.int .i64 0,.nilS,.int .i64 0,.int .i64 0,.str [],.int .i64 0,.nilS,v,.nilS,.nilS] 0 true):=by rw[o5 _ (by omega) (by omega)];exact g4
  have n5':H4.next+2≤H5.next:=by omega
  obtain⟨p1,p2⟩:=s5.one
  clear f5 q5 hrow hrow4 hr3
  dsimp only[zA]
  repeat' (first
   | (apply Rx.nl ?_;clear hK K)|apply Rx.o ?_|apply Rx.on ?_|(apply Rx.cd (fun hb hbp=>?_) (fun hb hbp=>?_)<;>try (cases hb;done))|apply Wp.seq ?_|(apply zd fun K hK=>?_)|(apply zf 8 [(3,9),(3,11),(6,9),(6,11)] fun K hK=>?_)|(apply zf 10 [(0,7),(0,10),(0,12),(4,7),(4,10),(4,12)] fun K hK=>?_)|(apply zf 24 [(3,14),(6,14),(7,14),(11,14),(13,14)] fun K hK=>?_)|(apply zf 28 [(1,4),(1,6),(5,6)] fun K hK=>?_)|(apply zw ?_;try intro _)|(apply zx ?_ ?_<;>clear hK K)|apply WpT.step ?_|apply zo rfl ?_|apply Wp.block ?_|apply zh ?_|apply Rx.rt ?_|apply zk ?_)
  ·exact eK
  ·have o6:∀ q,q≠H.next+2→(H5.set (H.next+2) (.cells [.int .i64 6,.str ((yB f).getD (m.tmod (yB f).length).toNat []),.str (fgG m),.int .i64 0,.int .i64 0,.int .i64 0,.str [],.int .i64 0,.nilS,.int .i64 0,.int .i64 0,.str [],.int .i64 0,.nilS,v5,.nilS,.nilS] 0 true)).get q=H5.get q:=fun q hq=>by rw[Hp.get_set,if_neg hq]
   have g60:H5.get H.next=some (.cells [.int .i64 0,.str [],.str [],.int .i64 0,.int .i64 0,.int .i64 0,.str [],.int .i64 0,.nilS,.int .i64 0,.int .i64 0,.str [],.int .i64 0,.nilS,.nilS,.nilS,.nilS] 0 true):=by rw[o5 _ (by omega) (by omega)];exact g40
   refine⟨by omega,(by simp only[zi,zl,and_true,sB,sO,Nat.reduceBEq,Nat.reduceAdd,Nat.reduceLeDiff,tyF,g60, *]),(by simp only[zi,zl,and_true,sB,sO,Nat.reduceBEq,Nat.reduceAdd,Nat.reduceLeDiff,tyF,g60, *]),eN,(by simp only[sB,Nat.reduceBEq, *];exact zT (n:=cnt) (by omega) (by omega)),?_⟩
   refine⟨v5,es++[(zD f 3 2 Lj).1],(zD f 3 2 Lj).2,by rw[Hp.get_set,if_pos rfl],by rw[List.map_append];exact s5.keep (fun q _ h=>h) (by simp only[ze];omega) fun q h1 h2=>o6 q (by omega),hr4.keep (by simp only[ze];omega) fun q hq=>by rw[o6 q (by omega),o5 q (by omega) (by omega)],fun q h1 h2=>by rw[o6 q (by omega),o5 q (by omega) (by omega),o4 q (by omega) h2,o3 q h1 h2],by simp[hel],by omega,?_⟩
   rw[hJ,show cnt - j=(cnt - (j+1))+1 by omega,jI]
   simp
 ·have hje:j=cnt:=by omega
  subst hje
  repeat' (first
   | (apply Rx.nl ?_;clear hK K)|apply Rx.o ?_|apply Rx.on ?_|(apply Rx.cd (fun hb hbp=>?_) (fun hb hbp=>?_)<;>try (cases hb;done))|apply Wp.seq ?_|(apply zd fun K hK=>?_)|(apply zf 8 [(3,9),(3,11),(6,9),(6,11)] fun K hK=>?_)|(apply zf 10 [(0,7),(0,10),(0,12),(4,7),(4,10),(4,12)] fun K hK=>?_)|(apply zf 24 [(3,14),(6,14),(7,14),(11,14),(13,14)] fun K hK=>?_)|(apply zf 28 [(1,4),(1,6),(5,6)] fun K hK=>?_)|(apply zw ?_;try intro _)|(apply zx ?_ ?_<;>clear hK K)|apply WpT.step ?_|apply zo rfl ?_|apply Wp.block ?_|apply zh ?_|apply Rx.rt ?_|apply zk ?_)
  refine⟨eI,_,(by(try simp only[sB,sO,Nat.reduceBEq,Nat.reduceAdd,Nat.reduceLeDiff,tyF,zQ,yb,ziL, *]);first|done|with_reducible rfl),?_⟩;try simp only[zp]
  rw[if_neg (by omega),if_neg (by omega),if_neg (by omega),if_neg (by omega),if_neg (by omega),if_pos (by omega),hJ,Nat.sub_self]at hR
  subst hR
  simp only[jI,List.append_nil]
  refine zfe rfl (by simp only[List.all_cons,List.all_nil,v1,Bool.and_true];rfl) (zdz (n:=8+k) 6 _ _ 0 zlO zlO ((hrow.keep (fun q _ hq=>by omega) (by simp only[ze];omega) fun q h1 h2=>by rw[Hp.get_set,if_neg (by omega)]).rd.up (by omega)) .nilS .nilS) ?_ ?_ ?_
  ·exact hr3.keep (by simp only[ze];omega) fun q hq=>by rw[Hp.get_set,if_neg (by omega)]
  ·simp only[ze];omega
  ·intro q h1 h2
   rw[Hp.get_set,if_neg (by omega)]
   exact o3 q h1 h2
end Go.Proofs.Ytpbcimfiofmoeaa
namespace Go.Proofs.Ytpbcimfiofmoeaa
set_option maxRecDepth 20000
set_option maxRecDepth 20000
open Go Go.Ab
namespace tyG5
def tyF:=And.intro @tq3 (And.intro @tq9 (And.intro @zcV (And.intro @zcc (And.intro @za9 (And.intro @zba (And.intro @zau (And.intro @zbw (And.intro @tq77 (And.intro @zS17 (@zhg))))))))))
end tyG5
open tyG5
set_option maxRecDepth 100000 in
theorem znk {lG:List En} (hG:GenL lG) {k:Nat}{f:Int}{deep:Nat} (hd:deep≤3) (hst:deep≤2→zag lG k f (deep+1)):zag lG (k+1) f deep:=by
 intro lo H r s hrd hL
 have hw:Plain (zK pls lG) 55:=hG.plain (by rfl)
 have hnx:Plain (zK pls lG) 27:=hG.plain (by rfl)
 have hkeep:(zK pls lG).keep 55=false:=rfl
 have hrl:=hrd.1
 have hlo:=hrd.2.1
 have hq16:(16:Int)≠0:=by decide
 have hq2:(2:Int)≠0:=by decide
 have hlen0:((yB f).length:Int)≠0:=by rcases zbi f with h|h<;>rw[h]<;>decide
 rw[jx,zgY]
 refine zj (M:=156) (rs:=[.cell 6 55]) (hw.call _) hw.ice hw.froz Try.func55 rfl rfl zd8.2 rfl ?_;dsimp only[zd8,zO,Nat.reduceAdd]
 repeat' (first
  | (apply Rx.nl ?_;clear hK K)|apply Rx.o ?_|apply Rx.gu ?_|(apply Rx.gd (fun hg hgp=>?_) (fun hg hgp=>?_)<;>try (cases hg;done))|(apply Rx.cd (fun hb hbp=>?_) (fun hb hbp=>?_)<;>try (cases hb;done))|apply Wp.seq ?_|(apply zd fun K hK=>?_)|apply zh ?_)
 refine WpL.call rfl eVk eAk ?_;simp only[List.cons_append,List.nil_append,List.append_nil]
 refine zr.mono ?_ (zhr hnx (hrd.keep (Nat.le_succ _) fun q hq=>by rw[za,if_neg (by omega)]) hL)
 rintro v H2 ⟨rfl,hr2,n2,o2⟩
 simp only[zb]at n2
 have g2:H2.get H.next=some (.cells [.int .i64 0,.str [],.str [],.int .i64 0,.int .i64 0,.int .i64 0,.str [],.int .i64 0,.nilS,.int .i64 0,.int .i64 0,.str [],.int .i64 0,.nilS,.nilS,.nilS,.nilS] 0 true):=by rw[o2 _ (by omega),za,if_pos rfl]
 have o2':∀ q,q < H.next→q≠r→H2.get q=H.get q:=fun q h1 h2=>by rw[o2 q h2,za,if_neg (by omega)]
 have hL1:=yM s.1
 generalize (zF s.1).1=n at *
 generalize (zF s.1).2=L1 at *
 obtain⟨sL,c⟩:=s
 simp only[]at *
 have hq:=yy (n:=n) (m:=16) (by omega) (by omega)
 have hm:=yy (n:=w64 (n.tdiv 16)) (m:=1000) (by omega) (by omega)
 obtain⟨hi0,hix⟩:=zah (yB f) hlen0 hm.1 []
 have hxs:=zko hm.1
 have hxa:=zdy hm.1
 have hxf:=zgZ hm.1
 clear o2
 dsimp only[zA]
 repeat' (first
  | (apply Rx.nl ?_;clear hK K)|apply Rx.o ?_|(apply Rx.call ?_;first|refine zaF (zlF hG.nms _ _) ?_|refine zaF (zeq hG.pick _ 1000 (by decide) _) ?_)|apply Rx.gu ?_|(apply Rx.gd (fun hg hgp=>?_) (fun hg hgp=>?_)<;>try (cases hg;done))|(apply Rx.cd (fun hb hbp=>?_) (fun hb hbp=>?_)<;>try (cases hb;done))|apply Wp.seq ?_|(apply zd fun K hK=>?_)|apply zh ?_)
 refine WpL.call rfl eVk eAk ?_;simp only[List.cons_append,List.nil_append,List.append_nil]
 refine zr.mono ?_ (zeq hG.pick n 16 (by decide) _)
 rintro _ _ ⟨rfl,rfl⟩
 dsimp only[zA]
 refine Rx.o ?_
 refine WpL.nil (hK _ _ ?_)
 clear hK K
 dsimp only[zb9,zca]
 generalize yn n 16=q0 at *
 generalize yn (w64 (n.tdiv 16)) 1000=m at *
 obtain⟨lv,hgr,hlen⟩:=hr2.len
 rename_i H2
 simp only[zZ,zS,z6,z7,Nat.blt,Nat.ble,List.getElem?_cons_succ,List.getElem?_cons_zero,Option.bind_some]
 refine Wp.seq ?_
 refine Wp.seq ?_
 refine zd fun K hK0=>?_
 have hK:∀ E2 H3,(E2.at 0=.ptr r 0∧E2.at 1=.int .i64 f∧E2.at 2=.int .i64 deep∧E2.at 6=.ptr H.next 0∧E2.at 8=je (yB f)∧E2.at 9=.int .i64 m∧E2.at 10=.int .i64 q0∧(∃ b,E2.at 44=.bool b∧(b=true↔(((2:Int) < deep∧8≤q0∧q0 < 12)∨(10≤c∧10≤q0))))∧H3=H2)→K E2 H3:=by
  rintro E2 H3 ⟨k0,k1,k2,k6,k8,k9,k10,⟨b,k44,hb⟩,rfl⟩
  apply hK0
  clear hK0 K
  dsimp only[zb9,zca]
  have hqe:ziK deep c q0=if ((2:Int) < deep∧8≤q0∧q0 < 12)∨(10≤c∧10≤q0)then 0 else q0:=rfl
  generalize ziK deep c q0=q at *
  have hqr:0≤q∧q < 16:=by rw[hqe];split<;>omega
  have hqd:8≤q→q < 12→deep≤2:=by rw[hqe];split<;>omega
  refine zvn (fun E' H'=>E'.at 0=.ptr r 0∧E'.at 1=.int .i64 f∧E'.at 2=.int .i64 deep∧E'.at 6=.ptr H.next 0∧E'.at 8=je (yB f)∧E'.at 9=.int .i64 m∧E'.at 10=.int .i64 q∧H'=H3) ?_ ?_
  ·cases b with
   | true=>
     rw[if_pos (hb.1 rfl)]at hqe
     repeat' (first
      | (apply Rx.nl ?_;clear hK K)|apply Rx.o ?_|apply Rx.gu ?_|(apply Rx.gd (fun hg hgp=>?_) (fun hg hgp=>?_)<;>try (cases hg;done))|(apply Rx.cd (fun hb hbp=>?_) (fun hb hbp=>?_)<;>try (cases hb;done))|apply Wp.seq ?_|(apply zd fun K hK=>?_)|apply zh ?_)
     exact⟨rfl,eE,eE,eE,eE,eE,eE,(by first|(simp only[sB,Nat.reduceBEq,hqe, *];done)|rfl),rfl⟩
   | false=>
     rw[if_neg (fun h=>by have:=hb.2 h;cases this)]at hqe
     repeat' (first
      | (apply Rx.nl ?_;clear hK K)|apply Rx.o ?_|apply Rx.gu ?_|(apply Rx.gd (fun hg hgp=>?_) (fun hg hgp=>?_)<;>try (cases hg;done))|(apply Rx.cd (fun hb hbp=>?_) (fun hb hbp=>?_)<;>try (cases hb;done))|apply Wp.seq ?_|(apply zd fun K hK=>?_)|apply zh ?_)
     exact⟨rfl,eE,eE,eE,eE,eE,eE,(by first|(simp only[sB,Nat.reduceBEq,hqe, *];done)|rfl),rfl⟩
  clear k0 k1 k2 k6 k8 k9 k10 k44 hb hqe hq
  rintro E3 H' ⟨k0,k1,k2,k6,k8,k9,k10,rfl⟩
  have hat:AtT f deep lo H H' r L1 c q m E3:=⟨hd,hrl,hlo,n2,g2,o2',hr2,by omega,hm,hqd,k0,k1,k2,k6,k8,k9,k10⟩
  by_cases c1:q < 6
  ·exact zlW hG hst hat c1
  by_cases c2:q < 8
  ·exact zni hG hst hat c1 c2
  by_cases c3:q < 10
  ·exact zvz hG hst hat c1 c2 c3
  by_cases c4:q < 12
  ·exact znj hG hst hat c1 c2 c3 c4
  by_cases c5:q < 14
  ·exact zrG hG hst hat c1 c2 c3 c4 c5
  by_cases c6:q < 15
  ·exact zpz hG hst hat c1 c2 c3 c4 c5 c6
  exact zpy hG hst hat c1 c2 c3 c4 c5 c6
 clear hK0
 repeat' (first
  | (apply Rx.nl ?_;clear hK K)|apply Rx.o ?_|apply Rx.gu ?_|(apply Rx.gd (fun hg hgp=>?_) (fun hg hgp=>?_)<;>try (cases hg;done))|apply Wp.seq ?_|(apply zd fun K hK=>?_)|apply zh ?_)
 all_goals
  refine⟨eE,eE,eE,eE,eE,eE,eE,⟨_,eE,?_⟩,rfl⟩
  first
  | exact⟨fun _=>by omega,fun _=>rfl⟩
  | exact⟨fun h=>(by cases h),fun h=>(by omega:False).elim⟩
  | exact⟨fun h=>by(have h:=of_decide_eq_true h;omega),fun h=>decide_eq_true (by omega)⟩
theorem zlX {lG:List En} (hG:GenL lG) (f:Int):∀ (k deep:Nat),4≤deep+k→deep≤3→zag lG k f deep
 | 0,deep,h1,h2=>by omega
 | k+1,deep,h1,h2=>znk hG h2 fun h=>zlX hG f k (deep+1) (by omega) (by omega)
end Go.Proofs.Ytpbcimfiofmoeaa
