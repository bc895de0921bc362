/- Parts: SpecX, SpecY, ChkX, LwX, G5a, G5b, G5, G6. -/
import Derived.Test.YtpbcimfiofmoeaaSIO
set_option linter.unusedSimpArgs false
set_option linter.unusedVariables false
set_option linter.unusedSectionVars false
set_option linter.defProp false
set_option maxHeartbeats 32000000
namespace Go.Proofs.Ytpbcimfiofmoeaa
set_option maxRecDepth 20000
open Go Go.Ab
def zkz (c:Cx):Sc:=⟨c.names,some (c.arrays.map (·.name)),⟨c.arrays,c.funcs⟩⟩
structure SOk (c:Cx) (x:St):Prop where
 wf:ze8 x=true
 df:zbA (zkz c) false x=true
 ar:zbA (zkz c) true x=true
 rg:rg1 x
structure SsOk (c:Cx) (l:List St):Prop where
 wf:zaK l=true
 df:je (zkz c) false l=true
 ar:je (zkz c) true l=true
 rg:rgS l
section
variable {c:Cx}
theorem SsOk.cons {x:St}{l:List St} (h:SsOk c (x::l)):SOk c x∧SsOk c l:=by
 obtain⟨h1,h2,h3,h4⟩:=h
 rw[zaK,Bool.and_eq_true]at h1
 rw[je,Bool.and_eq_true]at h2 h3
 rw[rgS]at h4
 exact⟨⟨h1.1,h2.1,h3.1,h4.1⟩,⟨h1.2,h2.2,h3.2,h4.2⟩⟩
theorem SOk.subs {x:St} (h:SOk c x):SsOk c x.thn∧SsOk c x.els:=by
 obtain⟨h1,h2,h3,h4⟩:=h
 rw[zep]at h1
 rw[zkf]at h2 h3
 rw[zkl]at h4
 simp only[Bool.and_eq_true]at h1 h2 h3
 exact⟨⟨h1.1.2,h2.1.2,h3.1.2,h4.2.2.2.1⟩,⟨h1.2,h2.2,h3.2,h4.2.2.2.2⟩⟩
theorem zl2:∀ {l:List Ex}{x:Ex},zbj l→x∈l→rgE x
 | [],x,_,h=>by simp at h
 | e::l,x,hw,h=>by
   rw[zbj]at hw
   rcases List.mem_cons.1 h with rfl|h
   ·exact hw.1
   ·exact zl2 hw.2 h
theorem zl3:∀ {l:List Ex}{x:Ex},zaJ l=true→x∈l→wfE x=true
 | [],x,_,h=>by simp at h
 | e::l,x,hw,h=>by
   rw[zaJ,Bool.and_eq_true]at hw
   rcases List.mem_cons.1 h with rfl|h
   ·exact hw.1
   ·exact zl3 hw.2 h
theorem zjF {vs an:List Nm}:∀ {l:List Ex}{x:Ex},jS vs an l=true→x∈l→zaw vs an x=true
 | [],x,_,h=>by simp at h
 | e::l,x,hw,h=>by
   rw[jS,Bool.and_eq_true]at hw
   rcases List.mem_cons.1 h with rfl|h
   ·exact hw.1
   ·exact zjF hw.2 h
theorem SOk.def {x:St} (h:SOk c x):jS c.names (c.arrays.map (·.name)) x.args=true∧zaw c.names (c.arrays.map (·.name)) x.at_=true∧zaw c.names (c.arrays.map (·.name)) x.value=true∧zak (zkz c) x=true:=by
 have h2:=h.df
 rw[zkf]at h2
 simp only[Bool.and_eq_true,cond_false,zcl]at h2
 exact⟨h2.1.1.1.1.1,h2.1.1.1.1.2,h2.1.1.1.2,h2.1.1.2⟩
theorem SOk.args {x:St} (h:SOk c x):∀ a∈x.args,XOk c a:=fun a ha=>by
 have h1:=h.wf
 have h4:=h.rg
 rw[zep,zbp]at h1
 rw[zkl]at h4
 simp only[Bool.and_eq_true]at h1
 exact⟨zl3 h1.1.1.1 ha,zjF h.def.1 ha,zl2 h4.2.2.1 ha⟩
theorem SOk.value {x:St} (h:SOk c x) (hk:x.kind=1∨x.kind=2∨x.kind=3∨x.kind=4∨x.kind=5):XOk c x.value:=by
 have h1:=h.wf
 have h4:=h.rg
 rw[zep,zbp,zck]at h1
 rw[zkl]at h4
 simp only[Bool.and_eq_true]at h1
 refine⟨?_,h.def.2.2.1,h4.2.1⟩
 have h3:=h1.1.1.2
 rcases hk with e|e|e|e|e<;>rw[e]at h3<;>simp at h3<;>simp[h3]
theorem SOk.at_ {x:St} (h:SOk c x) (hk:x.kind=2):XOk c x.at_:=by
 have h1:=h.wf
 have h4:=h.rg
 rw[zep,zbp,zck]at h1
 rw[zkl]at h4
 simp only[Bool.and_eq_true]at h1
 refine⟨?_,h.def.2.1,h4.1⟩
 have h3:=h1.1.1.2
 rw[hk]at h3;simp at h3;simp[h3]
theorem SOk.trap {x:St} (h:SOk c x) (hk:x.kind=7):0≤x.n∧x.n≤1000000:=by
 have h1:=h.wf
 rw[zep,zbp,zck]at h1
 simp only[Bool.and_eq_true]at h1
 have h3:=h1.1.1.2
 rw[hk]at h3;simp at h3;exact⟨by simp[h3],by simp[h3]⟩
theorem SOk.kd {x:St} (h:SOk c x):1≤x.kind∧x.kind≤7:=by
 have h1:=h.wf
 rw[zep,zbp,zck]at h1
 simp only[Bool.and_eq_true]at h1
 have h3:=h1.1.1.2
 by_cases e:1≤x.kind∧x.kind≤7
 ·exact e
 ·rw[if_neg (by omega),if_neg (by omega),if_neg (by omega),if_neg (by omega),if_neg (by omega),if_neg (by omega),if_neg (by omega)]at h3
  cases h3
theorem SOk.name {x:St} (h:SOk c x) (hk:x.kind=1∨x.kind=6):ixS c.names x.name < c.names.length:=by
 have:=h.def.2.2.2
 rw[zak]at this
 rcases hk with e|e<;>simp[e,zkz]at this
 ·exact zgI this
 ·exact zgI this.1
theorem SOk.arr {x:St} (h:SOk c x) (hk:x.kind=2):ixS (c.arrays.map (·.name)) x.name < c.arrays.length:=by
 have:=h.def.2.2.2
 rw[zak]at this
 simp[hk,zkz,Sc.an]at this
 have:=zgI this
 rwa [List.length_map]at this
theorem SOk.call {x:St} (h:SOk c x) (hk:x.kind=6):0≤yn c.funcs x.to 0∧x.args.length=zi4 ⟨c.arrays,c.funcs⟩ x.to:=by
 have h1:=h.def.2.2.2
 have h3:=h.ar
 rw[zak]at h1
 simp[hk,zkz]at h1
 rw[zkf]at h3
 simp only[Bool.and_eq_true,cond_true,arK,hk]at h3
 simp[zkz]at h3
 have h5:=of_decide_eq_true h3.1.1
 exact⟨of_decide_eq_true h1.2,by omega⟩
end
theorem zhz {c:Cx}:∀ (n:Nat) (l:List St) (b:List Bool),SsOk c l→2 * zy l < n→b.length=c.names.length→∃ b',zaG c.names n l b=some b'∧b'.length=c.names.length
 | 0,l,b,_,h,_=>by omega
 | n+1,[],b,_,_,hb=>⟨b,rfl,hb⟩
 | n+1,x::l,b,hl,h,hb=>by
   obtain⟨hx,hl⟩:=hl.cons
   rw[zy]at h
   have hs:=x.sz_eq
   unfold zaG
   simp only
   rw[if_neg (fun q=>by have:=hx.name q.1;omega)]
   have hb1:(if x.kind=1∨x.kind=6 then b.set (ixS c.names x.name) true else b).length=c.names.length:=by split<;>simp[hb]
   obtain⟨b2,e2,l2⟩:=zhz n x.thn _ hx.subs.1 (by omega) hb1
   obtain⟨b3,e3,l3⟩:=zhz n x.els b2 hx.subs.2 (by omega) l2
   obtain⟨b4,e4,l4⟩:=zhz n l b3 hl (by omega) l3
   exact⟨b4,by rw[e2,Option.bind_some,e3,Option.bind_some,e4],l4⟩
theorem zrL {c:Cx}{np:Nat}{k:Int}{a:List Int}:∀ (m i:Nat) (s:Bd),LI c np s→IsT s.l 1 k→(∀ y∈a,IsT s.l 1 y)→a.length=c.names.length→i+m=c.names.length→∃ r,mvL k a m i s=some r∧LI c np r∧r.l.length≤s.l.length+m
 | 0,i,s,h,_,_,_,_=>⟨s,rfl,h,Nat.le_refl _⟩
 | m+1,i,s,h,hk,ha,hl,hi=>by
   have hvl:=h.vl
   have h1:i < a.length:=by omega
   have h2:i < s.vars.length:=by omega
   unfold mvL
   rw[List.getElem?_eq_getElem h1,Option.bind_some,List.getElem?_eq_getElem h2,Option.bind_some]
   obtain⟨m1,m2,m3⟩:=zb0 h hk (ha _ (List.getElem_mem h1)) (h.v _ (List.getElem_mem h2)) (.inl rfl)
   have lv:=ye k a[i] s.vars[i] s
   obtain⟨r,e,r1,r2⟩:=zrL m (i+1) { (zw k a[i] s.vars[i] s).2 with vars:=(zw k a[i] s.vars[i] s).2.vars.set i (zw k a[i] s.vars[i] s).1 } (m1.setV (fun y hy=>by
    rcases List.mem_or_eq_of_mem_set hy with hy|rfl
    ·exact m1.v y hy
    ·exact m2) (by rw[List.length_set];exact m1.vl)) (hk.le lv.le.l) (fun y hy=>(ha y hy).le lv.le.l) hl (by omega)
   exact⟨r,e,r1,by simp only at r2;omega⟩
theorem zrM {c:Cx}{np:Nat}{k:Nat} (hk:k≤15):∀ (ws:List Nat) (j:Nat) (s:Bd),LI c np s→j+ws.length≤15→LI c np (lvL (16 * (k:Int)+1) ws j s)∧(lvL (16 * (k:Int)+1) ws j s).l.length≤s.l.length+ws.length
 | [],j,s,h,_=>⟨h,Nat.le_refl _⟩
 | w::ws,j,s,h,hj=>by
   rw[List.length_cons]at hj
   have hm:(16 * (k:Int)+1+j).tmod 16=1+j:=by
    rw[Int.tmod_eq_emod_of_nonneg (by omega)];omega
   obtain⟨m1,m2,m3⟩:=jX h (n:=⟨3,16 * (k:Int)+1+j,[]⟩) (zq6 (by omega) (by omega)) (by split<;>decide) (zgG _ _ (by decide) (by unfold jG;omega) (by simp) (by decide) (by decide) (by decide) (by decide))
   rw[hm,if_neg (by omega)]at m2
   unfold lvL
   obtain⟨r1,r2⟩:=zrM hk ws (j+1) { (zn ⟨3,16 * (k:Int)+1+j,[]⟩ s).2 with vars:=(zn ⟨3,16 * (k:Int)+1+j,[]⟩ s).2.vars.set w (zn ⟨3,16 * (k:Int)+1+j,[]⟩ s).1 } (m1.setV (fun y hy=>by
    rcases List.mem_or_eq_of_mem_set hy with hy|rfl
    ·exact m1.v y hy
    ·exact m2) (by rw[List.length_set];exact m1.vl)) (by omega)
   exact⟨r1,by rw[List.length_cons];simp only at r2 ⊢;omega⟩
theorem zrN {c:Cx}{np:Nat}{lp k:Int}{old:List Int}{q:Nd}:∀ (ws:List Nat) (j:Nat) (s:Bd),LI c np s→IsT s.l 3 lp→s.l[lp.toNat]?=some q→IsT s.l 1 k→(∀ y∈old,IsT s.l 1 y)→(∀ w∈ws,w < old.length)→1≤j→((j+ws.length:Nat):Int)≤lvI q.kids.length→j+ws.length≤16 →
 LI c np (lrL lp k old ws j s)∧(lrL lp k old ws j s).l.length≤s.l.length+2 * ws.length
 | [],j,s,h,_,_,_,_,_,_,_,_=>⟨h,Nat.le_refl _⟩
 | w::ws,j,s,h,hlp,hq,hk,ho,hw,hj,hlv,h16=>by
   rw[List.length_cons]at hlv h16
   obtain⟨m1,m2,m3⟩:=jX h (n:=⟨25,j,[lp]⟩) (zra hlp hq (by omega) (by omega)) (by split<;>decide) (zgG _ _ (by decide) (by unfold jG;omega) (by simp) (by decide) (by decide) (by decide) (by decide))
   rw[if_neg (by omega)]at m2
   have p1:=zX ⟨25,j,[lp]⟩ s
   have hwo:=hw w List.mem_cons_self
   have how:old.getD w 0∈old:=by rw[List.getD_eq_getElem?_getD,List.getElem?_eq_getElem hwo];exact List.getElem_mem hwo
   obtain⟨n1,n2,n3⟩:=zb0 m1 (hk.le p1.le.l) m2 ((ho _ how).le p1.le.l) (.inl rfl)
   have p2:=p1.trans (ye k (zn ⟨25,j,[lp]⟩ s).1 (old.getD w 0) (zn ⟨25,j,[lp]⟩ s).2)
   unfold lrL
   simp only[]
   generalize zw k (zn ⟨25,j,[lp]⟩ s).1 (old.getD w 0) (zn ⟨25,j,[lp]⟩ s).2=z at *
   have hq2:z.2.l[lp.toNat]?=some q:=by
    obtain⟨t,ht⟩:=p2.le.l
    rw[← ht,List.getElem?_append_left,hq]
    have:=hlp.hi;have:=hlp.lo;omega
   obtain⟨r1,r2⟩:=zrN (q:=q) (lp:=lp) (k:=k) (old:=old) ws (j+1) { z.2 with vars:=z.2.vars.set w z.1 } (n1.setV (fun y hy=>by
    rcases List.mem_or_eq_of_mem_set hy with hy|rfl
    ·exact n1.v y hy
    ·exact n2) (by rw[List.length_set];exact n1.vl)) (hlp.le p2.le.l) hq2 (hk.le p2.le.l) (fun y hy=>(ho y hy).le p2.le.l) (fun y hy=>hw y (List.mem_cons_of_mem _ hy)) (by omega) (by omega) (by omega)
   exact⟨r1,by rw[List.length_cons];simp only at r2 ⊢;omega⟩
theorem zjG (b:List Bool):(yE b).length≤b.length:=by
 have:=List.length_filter_le (fun i=>b.getD i false) (List.range b.length)
 rwa [List.length_range]at this
def znr (c:Cx) (np n:Nat):Prop:=∀ x s,SOk c x→2 * x.sz < n→LI c np s→s.loops+w1 x≤16→∃ r,stL c n x s=some r∧LI c np r∧r.loops≤s.loops+w1 x∧r.l.length≤s.l.length+64 * x.sz
def ziN (c:Cx) (np n:Nat):Prop:=∀ l s,SsOk c l→2 * zy l < n→LI c np s→s.loops+wS l≤16→∃ r,jA c n l s=some r∧LI c np r∧r.loops≤s.loops+wS l∧r.l.length≤s.l.length+64 * zy l
def zns (c:Cx) (np n:Nat):Prop:=∀ x s,SOk c x→x.kind=4→2 * x.sz≤n→LI c np s→s.loops+w1 x≤16→∃ r,whL c n x s=some r∧LI c np r∧r.loops≤s.loops+w1 x∧r.l.length≤s.l.length+64 * x.sz
theorem zvN {c:Cx} (hc:CxOkU c) {np n:Nat} (IS:ziN c np n):zns c np (n+1):=fun x s hx hk hsz h hw=>by
 have hs:=x.sz_eq
 have hw1:=w1_eq x
 rw[if_pos hk]at hw1
 have hv:=hx.value (.inr (.inr (.inr (.inl hk))))
 unfold whL
 obtain⟨r,hr,p1,p2,p3⟩:=zcM hc n x.value { s with loops:=s.loops+1 } hv (by omega) (h.setN _)
 have lr:=yu c n _ _ _ hr
 have hrn:r.2.loops=s.loops+1:=lr.n
 obtain⟨b,hb,hbl⟩:=zhz n x.thn (List.replicate r.2.vars.length false) hx.subs.1 (by omega) (by rw[List.length_replicate];exact p1.vl)
 rw[hr,Option.bind_some,hb,Option.bind_some]
 simp only[]
 have hwl:=zjG b
 have hnl:=hc.nl
 have hwm:∀ i∈yE b,i < r.2.vars.length:=fun i hi=>by have:=zjC hi;have:=p1.vl;omega
 generalize yE b=ws at *
 have hm:(16 * (s.loops:Int)).tmod 16=0:=by rw[Int.tmod_eq_emod_of_nonneg (by omega)];omega
 obtain⟨q1,q2,q3⟩:=jX p1 (n:=⟨3,16 * (s.loops:Int),[]⟩) (zq6 (by omega) (by omega)) (by split<;>decide) (zgG _ _ (by decide) (by unfold jG;omega) (by simp) (by decide) (by decide) (by decide) (by decide))
 rw[hm,if_pos rfl]at q2
 have lq:=zX ⟨3,16 * (s.loops:Int),[]⟩ r.2
 generalize zn ⟨3,16 * (s.loops:Int),[]⟩ r.2=q at *
 obtain⟨u1,u2⟩:=zrM (k:=s.loops) (by omega) ws 0 { q.2 with state:=q.1 } (q1.setS q2) (by omega)
 have lu:=zdv (16 * (s.loops:Int)+1) ws 0 { q.2 with state:=q.1 }
 generalize lvL (16 * (s.loops:Int)+1) ws 0 { q.2 with state:=q.1 }=u at *
 have hun:u.loops=s.loops+1:=by rw[lu.2.2.2];show q.2.loops=_;rw[lq.n,hrn]
 obtain⟨t,ht,t1,t2,t3⟩:=IS x.thn u hx.subs.1 (by omega) u1 (by omega)
 have lt:=(zaV c n).2.1 _ _ _ ht
 rw[ht,Option.bind_some]
 obtain⟨d,hd,d1,d2,d3⟩:=zcM hc n x.value t hv (by omega) t1
 have ld:=yu c n _ _ _ hd
 rw[hd,Option.bind_some]
 have le1:Le r.2 d.2:=(lq.le.setS q.1).trans (lu.1.trans (lt.1.trans ld.le))
 have hold:∀ y∈r.2.vars,IsT d.2.l 1 y:=fun y hy=>(p1.v y hy).le le1.l
 have ho:∀ a∈ws.map fun i=>r.2.vars.getD i 0,IsT d.2.l 1 a:=fun a ha=>by
  obtain⟨i,hi,rfl⟩:=List.mem_map.1 ha
  rw[List.getD_eq_getElem?_getD,List.getElem?_eq_getElem (hwm i hi)]
  exact hold _ (List.getElem_mem _)
 have hn:∀ a∈ws.map fun i=>d.2.vars.getD i 0,IsT d.2.l 1 a:=fun a ha=>by
  obtain⟨i,hi,rfl⟩:=List.mem_map.1 ha
  have:=hwm i hi
  have e1:=d1.vl
  have e2:=p1.vl
  rw[List.getD_eq_getElem?_getD,List.getElem?_eq_getElem (show i < d.2.vars.length by omega)]
  exact d1.v _ (List.getElem_mem _)
 have hkl:(r.2.state::(ws.map fun i=>r.2.vars.getD i 0)++[d.1,d.2.state]++ws.map fun i=>d.2.vars.getD i 0).length=2 * ws.length+3:=by simp;omega
 obtain⟨k1,k2,k3⟩:=jX d1 (n:=⟨31,s.loops,r.2.state::(ws.map fun i=>r.2.vars.getD i 0)++[d.1,d.2.state]++ws.map fun i=>d.2.vars.getD i 0⟩) (zq9 (p1.st.le le1.l) ho d2 d1.st hn (by simp) (by simp;omega) (by omega) (by omega)) (by decide) (zgG _ _ (by decide) (by unfold jG;omega) (by rw[hkl];omega) (by decide) (by decide) (by decide) (by decide))
 have lk:=zX ⟨31,s.loops,r.2.state::(ws.map fun i=>r.2.vars.getD i 0)++[d.1,d.2.state]++ws.map fun i=>d.2.vars.getD i 0⟩ d.2
 have hq:(zn ⟨31,s.loops,r.2.state::(ws.map fun i=>r.2.vars.getD i 0)++[d.1,d.2.state]++ws.map fun i=>d.2.vars.getD i 0⟩ d.2).2.l[(zn ⟨31,s.loops,r.2.state::(ws.map fun i=>r.2.vars.getD i 0)++[d.1,d.2.state]++ws.map fun i=>d.2.vars.getD i 0⟩ d.2).1.toNat]?=some ⟨31,s.loops,r.2.state::(ws.map fun i=>r.2.vars.getD i 0)++[d.1,d.2.state]++ws.map fun i=>d.2.vars.getD i 0⟩:=zpc _ _
 generalize zn ⟨31,s.loops,r.2.state::(ws.map fun i=>r.2.vars.getD i 0)++[d.1,d.2.state]++ws.map fun i=>d.2.vars.getD i 0⟩ d.2=k at *
 have hlv:lvI (2 * ws.length+3:Nat)=((ws.length+1:Nat):Int):=by rw[zif _ (by omega)];omega
 have k1':=k1.setV (x:=r.2.vars) (fun y hy=>(hold y hy).le lk.le.l) p1.vl
 obtain⟨f1,f2,f3⟩:=jX k1' (n:=⟨25,0,[k.1]⟩) (zra (n:=0) k2 hq (by omega) (by rw[hkl,hlv];omega)) (by decide) (zgG _ _ (by decide) (by unfold jG;omega) (by simp) (by decide) (by decide) (by decide) (by decide))
 rw[if_pos rfl]at f2
 have lf:=zX ⟨25,0,[k.1]⟩ { k.2 with vars:=r.2.vars }
 have le2:r.2.l<+:(zn ⟨25,0,[k.1]⟩ { k.2 with vars:=r.2.vars }).2.l:=(le1.l.trans lk.le.l).trans lf.le.l
 have hfv:(zn ⟨25,0,[k.1]⟩ { k.2 with vars:=r.2.vars }).2.vars=r.2.vars:=lf.v
 obtain⟨m1,m2,m3⟩:=zb0 f1 (p2.le le2) f2 (p1.st.le le2) (.inr rfl)
 have lm:=ye r.1 (zn ⟨25,0,[k.1]⟩ { k.2 with vars:=r.2.vars }).1 r.2.state (zn ⟨25,0,[k.1]⟩ { k.2 with vars:=r.2.vars }).2
 generalize zn ⟨25,0,[k.1]⟩ { k.2 with vars:=r.2.vars }=f at *
 generalize zw r.1 f.1 r.2.state f.2=m at *
 have lkm:k.2.l<+:m.2.l:=lf.le.l.trans lm.le.l
 have hqm:m.2.l[k.1.toNat]?=some ⟨31,s.loops,r.2.state::(ws.map fun i=>r.2.vars.getD i 0)++[d.1,d.2.state]++ws.map fun i=>d.2.vars.getD i 0⟩:=by
  obtain⟨z,hz⟩:=lkm
  rw[← hz,List.getElem?_append_left,hq]
  have:=k2.hi;have:=k2.lo;omega
 obtain⟨z1,z2⟩:=zrN (lp:=k.1) (k:=r.1) (old:=r.2.vars) ws 1 { m.2 with state:=m.1 } (m1.setS m2) (k2.le lkm) hqm (p2.le (le2.trans lm.le.l)) (fun y hy=>(p1.v y hy).le (le2.trans lm.le.l)) hwm (Nat.le_refl _) (by rw[hkl,hlv];omega) (by omega)
 have lz:=zfe k.1 r.1 r.2.vars ws 1 { m.2 with state:=m.1 }
 refine⟨_,rfl,z1,?_,?_⟩
 ·rw[lz.2.2.2]
  show m.2.loops≤_
  rw[lm.n,lf.n]
  show k.2.loops≤_
  rw[lk.n,ld.n]
  omega
 ·simp only at z2 p3 u2 f3 ⊢
  omega
theorem zvO {c:Cx} (hc:CxOkU c) {np n:Nat} (IS:ziN c np n) (IW:zns c np n):znr c np (n+1):=fun x s hx hsz h hw=>by
 have hs:=x.sz_eq
 have hw1:=w1_eq x
 have hkd:=hx.kd
 unfold stL
 by_cases k1:x.kind=1
 ·rw[if_pos k1]
  obtain⟨r,hr,p1,p2,p3⟩:=zcM hc n x.value s (hx.value (.inl k1)) (by omega) h
  have lr:=yu c n _ _ _ hr
  have hn:=hx.name (.inl k1)
  have hvl:=p1.vl
  rw[hr,Option.bind_some,if_pos (by omega)]
  exact⟨_,rfl,p1.setV (fun y hy=>by
   rcases List.mem_or_eq_of_mem_set hy with hy|rfl
   ·exact p1.v y hy
   ·exact p2) (by rw[List.length_set];exact hvl),by show r.2.loops≤_;rw[lr.n];omega,by simp only;omega⟩
 rw[if_neg k1]
 by_cases k2:x.kind=2
 ·rw[if_pos k2]
  obtain⟨r,hr,p1,p2,p3⟩:=zcM hc n x.at_ s (hx.at_ k2) (by omega) h
  obtain⟨v,hv,q1,q2,q3⟩:=zcM hc n x.value r.2 (hx.value (.inr (.inl k2))) (by omega) p1
  have lr:=yu c n _ _ _ hr
  have lv:=yu c n _ _ _ hv
  have hlt:=hx.arr k2
  rw[hr,Option.bind_some,hv,Option.bind_some,List.getElem?_eq_getElem hlt,Option.bind_some]
  have ha:=hc.a _ (List.getElem_mem hlt)
  generalize c.arrays[ixS (c.arrays.map (·.name)) x.name]=ar at ha ⊢
  have p2':=p2.le lv.le.l
  obtain⟨a1,a2⟩:=zon q1 (n:=ar.len) (by unfold jG;omega) p2'
  have lc:=zdt ar.len r.1 v.2
  obtain⟨b1,b2,b3⟩:=zrI hc a1 (p2'.le lc.le.l) (q2.le lc.le.l) hlt
  exact⟨_,rfl,b1.setS b2,by show(zbi ar.len r.1 v.2).loops≤_;rw[lc.n,lv.n,lr.n];omega,by simp only;omega⟩
 rw[if_neg k2]
 by_cases k3:x.kind=3
 ·rw[if_pos k3]
  rw[if_neg (by omega)]at hw1
  obtain⟨r,hr,p1,p2,p3⟩:=zcM hc n x.value s (hx.value (.inr (.inr (.inl k3)))) (by omega) h
  have lr:=yu c n _ _ _ hr
  have hrn:=lr.n
  obtain⟨a,ha,a1,a2,a3⟩:=IS x.thn r.2 hx.subs.1 (by omega) p1 (by omega)
  have la:=(zaV c n).2.1 _ _ _ ha
  have hal:a.vars.length=c.names.length:=a1.vl
  obtain⟨b,hb,b1,b2,b3⟩:=IS x.els { a with state:=r.2.state,vars:=r.2.vars } hx.subs.2 (by omega) ((a1.setS (p1.st.le la.1.l)).setV (fun y hy=>(p1.v y hy).le la.1.l) p1.vl) (by show a.loops+_≤_;omega)
  have lb:=(zaV c n).2.1 _ _ _ hb
  have lab:a.l<+:b.l:=lb.1.l
  have kb:IsT b.l 1 r.1:=(p2.le la.1.l).le lab
  have hbl:=b1.vl
  obtain⟨m,hm,m1,m2⟩:=zrL (k:=r.1) (a:=a.vars) b.vars.length 0 b b1 kb (fun y hy=>(a1.v y hy).le lab) hal (by omega)
  have lm:=zgz _ _ _ _ _ _ hm
  rw[hr,Option.bind_some,ha,Option.bind_some,hb,Option.bind_some,hm,Option.bind_some]
  obtain⟨t1,t2,t3⟩:=zb0 m1 (kb.le lm.1.l) ((a1.st.le lab).le lm.1.l) m1.st (.inr rfl)
  have lt:=ye r.1 a.state m.state m
  have hnl:=hc.nl
  refine⟨_,rfl,t1.setS t2,?_,?_⟩
  ·show(zw r.1 a.state m.state m).2.loops≤_
   rw[lt.n,lm.2.2.2]
   simp only at b2
   omega
  ·simp only at b3 ⊢
   omega
 rw[if_neg k3]
 by_cases k4:x.kind=4
 ·rw[if_pos k4]
  exact IW x s hx k4 (by omega) h hw
 rw[if_neg k4]
 by_cases k5:x.kind=5
 ·rw[if_pos k5]
  obtain⟨r,hr,p1,p2,p3⟩:=zcM hc n x.value s (hx.value (.inr (.inr (.inr (.inr k5))))) (by omega) h
  have lr:=yu c n _ _ _ hr
  rw[hr,Option.bind_some]
  obtain⟨b1,b2,b3⟩:=out_ok p1 p2
  exact⟨_,rfl,b1.setS b2,by show r.2.loops≤_;rw[lr.n];omega,by simp only;omega⟩
 rw[if_neg k5]
 by_cases k6:x.kind=6
 ·rw[if_pos k6]
  obtain⟨r,hr,p1,p2,p3⟩:=zoo hc (n:=n) x.args s hx.args (by omega) h
  obtain⟨lr,hlr⟩:=zdu c n _ _ _ hr
  obtain⟨c1,c2⟩:=hx.call k6
  obtain⟨i,hi,hfe⟩:=zlJ c.funcs x.to 0 c1
  obtain⟨f,hfn⟩:=zfc c.funcs hi
  have hfe':yn c.funcs x.to 0=(i:Int):=by simpa using hfe
  have hn:=hx.name (.inr k6)
  have hvl:=p1.vl
  have hpar:r.1.length=f.params.length:=by
   rw[hlr,c2,zi4,hfe',Int.toNat_natCast,hfn];rfl
  rw[hr,Option.bind_some,if_pos ⟨c1,by omega⟩]
  simp only[]
  rw[hfe']
  obtain⟨b1,b2,b3⟩:=zvM hc p1 p2 hfn hpar
  have lb:=zX ⟨30,i,r.2.state::r.1⟩ r.2
  generalize zn ⟨30,i,r.2.state::r.1⟩ r.2=z at *
  obtain⟨d1,d2,d3⟩:=cr_ok (b1.setS b2) b2
  have ld:=zX ⟨24,0,[z.1]⟩ { z.2 with state:=z.1 }
  generalize zn ⟨24,0,[z.1]⟩ { z.2 with state:=z.1 }=w at *
  refine⟨_,rfl,d1.setV (fun y hy=>?_) (by rw[List.length_set];exact d1.vl),?_,?_⟩
  ·rcases List.mem_or_eq_of_mem_set hy with hy|rfl
   ·exact d1.v y hy
   ·exact d2
  ·show w.2.loops≤_
   rw[ld.n]
   show z.2.loops≤_
   rw[lb.n,lr.n]
   omega
  ·simp only at d3 ⊢
   omega
 rw[if_neg k6]
 by_cases k7:x.kind=7
 ·rw[if_pos k7]
  have ht:=hx.trap k7
  have hw:w64 (16+x.n)=16+x.n:=zav (by omega) (by omega)
  rw[hw]
  obtain⟨a1,a2,a3⟩:=zea h (n:=0) (by unfold jG;omega)
  obtain⟨b1,b2⟩:=zgH a1 (t:=16+x.n) a2 (by omega) (by omega)
  have lb:=za6 (16+x.n) (zn ⟨1,0,[]⟩ s).1 (zn ⟨1,0,[]⟩ s).2
  exact⟨_,rfl,b1,by rw[lb.n];show s.loops≤_;omega,by omega⟩
 ·omega
theorem zvP {c:Cx}{np n:Nat} (I1:znr c np n) (IS:ziN c np n):ziN c np (n+1):=fun l s hl hsz h hw=>by
 cases l with
 | nil=>exact⟨s,by unfold jA;rfl,h,by omega,by omega⟩
 | cons x l=>
   obtain⟨hx,hl⟩:=hl.cons
   rw[zy]at hsz ⊢
   rw[wS]at hw ⊢
   unfold jA
   simp only[]
   obtain⟨r,hr,p1,p2,p3⟩:=I1 x s hx (by omega) h (by omega)
   obtain⟨t,ht,q1,q2,q3⟩:=IS l r hl (by omega) p1 (by omega)
   rw[hr,Option.bind_some,ht]
   exact⟨t,rfl,q1,by omega,by omega⟩
theorem zl4 {c:Cx} (hc:CxOkU c) {np:Nat}:∀ n:Nat,znr c np n∧ziN c np n∧zns c np n
 | 0=>⟨fun x s _ h=>by omega,fun l s _ h=>by omega,fun x s hx _ h=>by have:=x.sz_eq;omega⟩
 | n+1=>by
   obtain⟨a,b,d⟩:=zl4 hc (np:=np) n
   exact⟨zvO hc b d,zvP a b,zvN hc b⟩
section
variable {A:List Ar} {F:List Fu} {np:Nat}
theorem NdP.names {N N':List Nm}{x:Nd} (h:NdP ⟨A,F,N⟩ np x):NdP ⟨A,F,N'⟩ np x:=⟨h.op,h.imm,h.len,h.pa,h.ar,h.fn⟩
theorem LI.names {N N':List Nm}{s:Bd} (h:LI ⟨A,F,N⟩ np s) (hl:N'.length=N.length):LI ⟨A,F,N'⟩ np s:=⟨h.nd,h.wf,fun x hx=>(h.p x hx).names,h.v,h.vl.trans hl.symm,h.st⟩
theorem LI.push {N N':List Nm}{s:Bd} (h:LI ⟨A,F,N⟩ np s) {x:Int} (hx:IsT s.l 1 x) (hl:N'.length=N.length+1):LI ⟨A,F,N'⟩ np { s with vars:=s.vars++[x] }:=
 ⟨h.nd,h.wf,fun y hy=>(h.p y hy).names,fun y hy=>by
  rcases List.mem_append.1 hy with hy|hy
  ·exact h.v y hy
  ·simp only[List.mem_cons,List.not_mem_nil,or_false]at hy
   subst hy;exact hx,by
  have:=h.vl
  show(s.vars++[x]).length=_
  rw[List.length_append,this,hl];rfl,h.st⟩
theorem pr_ok (hnp:np≤6):∀ (m k:Nat) (s:Bd) (N N':List Nm),LI ⟨A,F,N⟩ np s→N'.length=N.length+m→k+m≤np→LI ⟨A,F,N'⟩ np (prL m k s)∧(prL m k s).loops=s.loops∧(prL m k s).l.length≤s.l.length+m
 | 0,k,s,N,N',h,hl,_=>⟨h.names hl,rfl,Nat.le_refl _⟩
 | m+1,k,s,N,N',h,hl,hk=>by
   obtain⟨a1,a2,a3⟩:=jX h (n:=⟨2,k,[]⟩) (zph (by omega) (by omega)) (by decide) ⟨by show 0≤(2:Int)∧(2:Int) < 256;decide,by show jG (k:Int);unfold jG;omega,by show 0≤40;decide,fun _=>by show(k:Int) < np;omega,fun e=>by rcases e with e|e<;>exact absurd e (by show ¬ (2:Int)=_;decide),fun e=>absurd e (by show ¬ (2:Int)=30;decide)⟩
   obtain⟨b1,b2,b3⟩:=pr_ok hnp m (k+1) { (zn ⟨2,k,[]⟩ s).2 with vars:=(zn ⟨2,k,[]⟩ s).2.vars++[(zn ⟨2,k,[]⟩ s).1] } ([]::N) N' (a1.push a2 rfl) (by rw[List.length_cons];omega) (by omega)
   exact⟨b1,b2,by have b4:(prL (m+1) k s).l.length≤(zn ⟨2,k,[]⟩ s).2.l.length+m:=b3;omega⟩
theorem lo_ok:∀ (m:Nat) (s:Bd) (N N':List Nm),LI ⟨A,F,N⟩ np s→N'.length=N.length+m→LI ⟨A,F,N'⟩ np (loL m s)∧(loL m s).loops=s.loops∧(loL m s).l.length≤s.l.length+m
 | 0,s,N,N',h,hl=>⟨h.names hl,rfl,Nat.le_refl _⟩
 | m+1,s,N,N',h,hl=>by
   obtain⟨a1,a2,a3⟩:=zea h (n:=0) (by unfold jG;omega)
   obtain⟨b1,b2,b3⟩:=lo_ok m { (zn ⟨1,0,[]⟩ s).2 with vars:=(zn ⟨1,0,[]⟩ s).2.vars++[(zn ⟨1,0,[]⟩ s).1] } ([]::N) N' (a1.push a2 rfl) (by rw[List.length_cons];omega)
   exact⟨b1,b2,by have b4:(loL (m+1) s).l.length≤(zn ⟨1,0,[]⟩ s).2.l.length+m:=b3;omega⟩
theorem zrO:LI ⟨A,F,[]⟩ np { (zn ⟨26,0,[]⟩ ⟨[],[],0,0⟩).2 with state:=(zn ⟨26,0,[]⟩ ⟨[],[],0,0⟩).1 }:=by
 obtain⟨a,b⟩:=zlR (l:=[]) (n:=⟨26,0,[]⟩) (fun i hi=>by simp at hi) zpi (by decide)
 refine⟨zhb List.nodup_nil,b,fun x hx=>?_,(fun y hy=>by cases hy),rfl,a⟩
 rcases (zpd (l:=[]) (n:=⟨26,0,[]⟩)).1 hx with hx|rfl
 ·cases hx
 ·exact zgG _ _ (by decide) (by unfold jG;omega) (by simp) (by decide) (by decide) (by decide) (by decide)
end
structure PrIn (p:Pr):Prop where
 ck:yH p=0
 rg:∀ f∈p.funcs,rgS f.body∧rgE f.value
theorem ref0 {p:Pr} (h:yH p=0):exB p=false∧wfP p=true∧zgw p=false∧p.funcs.any (zbS p)=false∧p.funcs.any (zcD p)=false:=by
 unfold yH at h
 split at h
 ·cases h
 split at h
 ·cases h
 split at h
 ·cases h
 split at h
 ·cases h
 split at h
 ·cases h
 rename_i a b c d e
 exact⟨by simpa using a,by simpa using b,by simpa using c,by simpa using d,by simpa using e⟩
theorem zeu {α:Type}{l:List α}{p:α→Bool} (h:l.any p=false) {x:α} (hx:x∈l):p x=false:=by
 cases e:p x with
 | false=>rfl
 | true=>rw[List.any_eq_true.2 ⟨x,hx,e⟩]at h;cases h
theorem PrIn.lim {p:Pr} (h:PrIn p):(∀ a∈p.arrays,1≤a.len∧a.len≤16)∧p.arrays.length≤4∧p.funcs.length≤8∧∀ f∈p.funcs,f.params.length≤6∧f.locals.length≤8∧wS f.body≤16:=by
 have hx:=(ref0 h.ck).1
 unfold exB at hx
 simp only[Bool.or_eq_false_iff,decide_eq_false_iff_not]at hx
 obtain⟨⟨⟨h1,h2⟩,h3⟩,h4⟩:=hx
 refine⟨fun a ha=>?_,by omega,by omega,fun f hf=>?_⟩
 ·have:=zeu h3 ha
  unfold exAr at this
  simp only[Bool.or_eq_false_iff,decide_eq_false_iff_not]at this
  omega
 ·have:=zeu h4 hf
  unfold zgv at this
  simp only[Bool.or_eq_false_iff,decide_eq_false_iff_not]at this
  omega
theorem PrIn.cx {p:Pr} (h:PrIn p) {f:Fu} (hf:f∈p.funcs):CxOkU (cxL p f):=by
 obtain⟨h1,h2,h3,h4⟩:=h.lim
 have:=h4 f hf
 exact⟨h1,h2,h3,fun g hg=>(h4 g hg).1,by show(f.params++f.locals).length≤14;rw[List.length_append];omega⟩
theorem PrIn.body {p:Pr} (h:PrIn p) {f:Fu} (hf:f∈p.funcs):SsOk (cxL p f) f.body∧XOk (cxL p f) f.value:=by
 obtain⟨_,h2,_,h4,h5⟩:=ref0 h.ck
 unfold wfP at h2
 rw[Bool.and_eq_true,List.all_eq_true,List.all_eq_true]at h2
 have w:=h2.2 f hf
 have u:=zeu h4 hf
 have b:=zeu h5 hf
 unfold zd2 at w
 unfold zbS at u
 unfold zcD at b
 simp only[Bool.and_eq_true,Bool.not_eq_false']at w u b
 obtain⟨r1,r2⟩:=h.rg f hf
 exact⟨⟨w.1.2,u.1,b,r1⟩,⟨w.2,u.2,r2⟩⟩
theorem zkA {p:Pr} (h:PrIn p) {n:Nat} (hn:2 * p.sz < n) {f:Fu} (hf:f∈p.funcs) :
 ∃ s v,jA (cxL p f) n f.body (zad f)=some s∧exL (cxL p f) n f.value s=some v∧LI (cxL p f) f.params.length v.2∧IsT v.2.l 1 v.1∧v.2.loops≤16∧v.2.l.length≤64 * p.sz:=by
 obtain⟨_,_,_,h4⟩:=h.lim
 obtain⟨l1,l2,l3⟩:=h4 f hf
 obtain⟨hb,hv⟩:=h.body hf
 have hc:=h.cx hf
 have hfz:=zbz hf
 have hpz:p.sz=1+zaj p.arrays+za0 p.funcs:=rfl
 have hfs:f.sz=1+f.name.length+yL f.params+yL f.locals+zy f.body+f.value.sz:=rfl
 have e0:=zrO (A:=p.arrays) (F:=p.funcs) (np:=f.params.length)
 obtain⟨a1,a2,a3⟩:=pr_ok l1 f.params.length 0 _ [] f.params e0 (by simp) (by omega)
 obtain⟨b1,b2,b3⟩:=lo_ok f.locals.length _ f.params (f.params++f.locals) a1 (by rw[List.length_append])
 have hs:LI (cxL p f) f.params.length (zad f):=b1
 have hs2:(zad f).loops=0:=b2.trans a2
 have hs3:(zad f).l.length≤15:=by
  have e1:(zad f).l.length≤(prL f.params.length 0 { (zn ⟨26,0,[]⟩ ⟨[],[],0,0⟩).2 with state:=(zn ⟨26,0,[]⟩ ⟨[],[],0,0⟩).1 }).l.length+f.locals.length:=b3
  have e2:(prL f.params.length 0 { (zn ⟨26,0,[]⟩ ⟨[],[],0,0⟩).2 with state:=(zn ⟨26,0,[]⟩ ⟨[],[],0,0⟩).1 }).l.length≤1+f.params.length:=a3
  omega
 obtain⟨s,q1,q2,q3,q4⟩:=(zl4 hc (np:=f.params.length) n).2.1 f.body (zad f) hb (by omega) hs (by omega)
 obtain⟨v,r1,r2,r3,r4⟩:=zcM hc n f.value s hv (by omega) q2
 have lv:=yu _ n _ _ _ r1
 exact⟨s,v,q1,r1,r2,r3,by rw[lv.n];omega,by omega⟩
theorem LI.fin {c:Cx}{np:Nat}{s:Bd} (h:LI c np s) (hl:s.l.length < 2 ^ 36) (hn:s.loops≤16):Fin s:=by
 refine⟨fun x hx=>?_,hl,by omega⟩
 have hp:=h.p x hx
 obtain⟨i,hi,e⟩:=List.getElem_of_mem hx
 have hg:s.l[i]?=some x:=by rw[List.getElem?_eq_getElem hi,e]
 have hw:=h.wf i hi
 rw[zfP hi]at hw
 obtain⟨t,hk,_,_⟩:=zmV hg hw
 refine⟨hp.op,hp.imm,fun k hm=>?_,by have:=hp.len;omega⟩
 have:=zen hk k hm
 omega
theorem low_ok {p:Pr} (h:PrIn p) (hz:p.sz < 2 ^ 30) {n:Nat} (hn:2 * p.sz < n):zrF p n:=fun f hf=>by
 obtain⟨s,v,h1,h2,h3,h4,h5,h6⟩:=zkA h hn hf
 exact⟨s,v,h1,h2,h3.fin (by omega) h5⟩
theorem prE_ns (p:Pr):(prE p).any (zd0 90)=false:=rfl
structure LwOk (p:Pr):Prop where
 sz:p.sz < 2 ^ 30
 rg:yH p=0→∀ f∈p.funcs,rgS f.body∧rgE f.value
def zfh (p:Pr):Un×Int:=(zki p (2 * p.sz+1)).getD (⟨[],[]⟩,0)
theorem zl5 {p:Pr} (h:PrIn p) {n:Nat} (hn:2 * p.sz < n):∀ (l:List Fu) (gs:List Gr),(∀ f∈l,f∈p.funcs)→∃ r,zez p n l gs=some r
 | [],gs,_=>⟨_,rfl⟩
 | f::l,gs,hl=>by
   obtain⟨s,v,e1,e2,_⟩:=zkA h hn (hl f List.mem_cons_self)
   rw[zez,fnL,e1,Option.bind_some,e2,Option.bind_some,Option.bind_some]
   split
   ·exact⟨_,rfl⟩
   ·exact zl5 h hn l _ fun g hg=>hl g (List.mem_cons_of_mem _ hg)
theorem LwOk.low {p:Pr} (h:LwOk p):zki p (2 * p.sz+1)=some ((zfh p).1,(zfh p).2):=by
 have:∃ r,zki p (2 * p.sz+1)=some r:=by
  unfold zki
  split
  ·rename_i c
   exact zl5 ⟨c,h.rg c⟩ (Nat.lt_succ_self _) _ _ fun f hf=>hf
  ·exact⟨_,rfl⟩
 obtain⟨r,hr⟩:=this
 rw[zfh,hr];rfl
noncomputable def enLw:En:=⟨15,true,spP LwOk prE fun p=>.tup [.agg (zfh p).1.cells,.int .i64 (zfh p).2]⟩
theorem zvQ (ρ:Nat→Int):zaF Try.prog ρ enLw:=yW fun p hp=>zpy ρ p (n:=2 * p.sz+1) (by have:=hp.sz;omega) (fun hc=>low_ok ⟨hc,hp.rg hc⟩ hp.sz (Nat.lt_succ_self _)) hp.low
theorem lwX {l:List En} (hl:∀ ar,yJ l 15 ar=(enW enLw).sp ar) (hi:zfI l 15=true) {S:Nat→Prop}{n:Nat}{H:Hp}{cs:List AV}{p:Pr} (hn:n < 59) (hc:yc S n H cs p.cells) (hz:LwOk p) :
 zu Try.prog (zJ pls l) 15 [.agg cs] H fun v H'=>v=.tup [.agg (zfh p).1.cells,.int .i64 (zfh p).2]∧Icy S H H':=by
 obtain⟨us,h1,h2⟩:=hc
 refine zm2 (x:=p) (enc:=prE) (ok:=LwOk) (out:=fun p=>.tup [.agg (zfh p).1.cells,.int .i64 (zfh p).2]) (us:=[.agg us]) (n:=n+1) zcC (fun ar=>by rw[hl];rfl) hi prE_ns hz (by omega) ⟨⟨us,h1,rfl⟩,trivial⟩ ?_
 show [AV.agg (us.map (wkN 59))]=_
 rw[h2 59 (by omega)];rfl
namespace tyG5a
def tyF:=And.intro @tq3 (And.intro @tq9 (And.intro @zcf (And.intro @zcg (And.intro @zbb (And.intro @zbc (And.intro @zay (And.intro @zbx (And.intro @tq77 (And.intro @zfD (And.intro @kb7 (And.intro @zkx (And.intro @nms2 (And.intro @kb1 (And.intro @kb2 (@kb3)))))))))))))))
end tyG5a
open tyG5a
set_option maxRecDepth 100000 in
theorem zl6 {lG:List En} (hG:GenL lG) {k:Nat}{f:Int}{deep lo:Nat}{H H2:Hp}{r:Nat}{L1:List Int}{c q m:Int}{E2:Env} (hst:deep≤2→zah lG k f (deep+1)) (hat:AtT f deep lo H H2 r L1 c q m E2)  (hp0:q < 6):Wp Try.prog (zJ pls lG) 55 156 zbl E2 H2 (zcG k f deep lo H r L1 c q m):=by
 obtain⟨hd,hrl,hlo,n2,g2,o2',hr2,hL1,hm,hqd,k0,k1,k2,k6,k8,k9,k10⟩:=hat
 have hkeep:(zJ pls lG).keep 55=false:=rfl
 have hq2:(2:Int)≠0:=by decide
 have hlen0:((yF f).length:Int)≠0:=by rcases zbk f with h|h<;>rw[h]<;>decide
 obtain⟨hi0,hix⟩:=zai (yF f) hlen0 hm.1 []
 have hxs:=zkw hm.1
 have hxa:=zdy hm.1
 have hxf:=zha hm.1
 have er:(H.next == r)=false:=zF (by omega)
 have e41:=zL f 4 1 L1
 have e50:=zL f 5 0 L1
 have e32:=zL f 3 2 L1
 have hwd:IntKind.wrap .i64 ((deep:Int)+1)=((deep+1:Nat):Int):=ya (by omega)
 unfold zcG
 generalize hR:jH (zi8 f k deep) f L1 c q m=R
 rw[jH]at hR
 dsimp only[zbl,scR,zd7]
 repeat' (first
  | (apply Rx.nl ?_;clear hK K)|apply Ry.o ?_|(apply Ry.cd (fun hb hbp=>?_) (fun hb hbp=>?_)<;>try (cases hb;done))|apply Wp.seq ?_|(apply zd fun K hK=>?_)|(apply zf 8 [(3,9),(3,11),(6,9),(6,11)] fun K hK=>?_)|(apply zf 10 [(0,7),(0,10),(0,12),(4,7),(4,10),(4,12)] fun K hK=>?_)|(apply zf 24 [(3,14),(6,14),(7,14),(11,14),(13,14)] fun K hK=>?_)|(apply zf 28 [(1,4),(1,6),(5,6)] fun K hK=>?_)|(apply zr ?_;try intro _)|(apply zt ?_ ?_<;>clear hK K)|apply WpT.step ?_|apply zm rfl ?_|apply Wp.block ?_|apply Rx.rt ?_)

 refine WpL.call rfl eVk eAk ?_;simp only[List.cons_append,List.nil_append,List.append_nil]
 refine zu.mono ?_ (jr hG 5 f 0 (by omega) (by omega) lo _ r L1 c hr2 (by omega))
 rintro v H4 ⟨⟨cs,rfl,hc1,hc2,hc3⟩,hr4,n4,o4⟩
 obtain⟨v0,v1,v2,v3,v4,rfl⟩:=zcL hc1
 obtain⟨w0,w1,w2,w3,w4⟩:=zi7 hc2
 have g4:H4.get H.next=some (.cells [.int .i64 0,.str [],.str [],.int .i64 0,.int .i64 0,.int .i64 0,.str [],.int .i64 0,.nilS,.int .i64 0,.int .i64 0,.str [],.int .i64 0,.nilS,.nilS,.nilS,.nilS] 0 true):=by rw[o4 _ (by omega) (by omega)];exact g2
 dsimp only[zA]
 repeat' (first
  | (apply Rx.nl ?_;clear hK K)|apply Rx.o ?_|apply Rx.on ?_|apply Wp.seq ?_|(apply zd fun K hK=>?_)|(apply zf 8 [(3,9),(3,11),(6,9),(6,11)] fun K hK=>?_)|(apply zf 10 [(0,7),(0,10),(0,12),(4,7),(4,10),(4,12)] fun K hK=>?_)|(apply zf 24 [(3,14),(6,14),(7,14),(11,14),(13,14)] fun K hK=>?_)|(apply zf 28 [(1,4),(1,6),(5,6)] fun K hK=>?_)|(apply zr ?_;try intro _)|(apply zt ?_ ?_<;>clear hK K)|apply WpT.step ?_|apply zm rfl ?_|apply Wp.block ?_|apply Rx.rt ?_)
 ·exact eK
 ·refine⟨eI,_,(by(try simp only[sB,sO,Nat.reduceBEq,Nat.reduceAdd,Nat.reduceLeDiff,tyF,zQ,yb,zkx, *]);first|done|with_reducible rfl),?_⟩;try simp only[zp]
  rw[if_pos (by omega)]at hR
  subst hR
  refine zfg rfl (by simp only[List.all_cons,List.all_nil,w0,w1,w2,w3,w4,Bool.and_true];rfl) (zdz (n:=8+k) 1 _ [] 0 zl1 ((hc3.up (by omega)).keep2 (fun q _ hq=>by omega) (by simp only[ze];omega) fun q h1 h2=>by rw[Hp.get_set,if_neg (by omega)]) .nilS .nilS .nilS) ?_ ?_ ?_
  ·exact hr4.keep (by simp only[ze];omega) fun q hq=>by rw[Hp.get_set,if_neg (by omega)]
  ·simp only[ze];omega
  ·intro q h1 h2
   rw[Hp.get_set,if_neg (by omega),o4 _ (by omega) h2]
   exact o2' q h1 h2
set_option maxRecDepth 100000 in
theorem znt {lG:List En} (hG:GenL lG) {k:Nat}{f:Int}{deep lo:Nat}{H H2:Hp}{r:Nat}{L1:List Int}{c q m:Int}{E2:Env} (hst:deep≤2→zah lG k f (deep+1)) (hat:AtT f deep lo H H2 r L1 c q m E2) (hn0:¬ q < 6) (hp0:q < 8):Wp Try.prog (zJ pls lG) 55 156 zbl E2 H2 (zcG k f deep lo H r L1 c q m):=by
 obtain⟨hd,hrl,hlo,n2,g2,o2',hr2,hL1,hm,hqd,k0,k1,k2,k6,k8,k9,k10⟩:=hat
 have hkeep:(zJ pls lG).keep 55=false:=rfl
 have hq2:(2:Int)≠0:=by decide
 have hlen0:((yF f).length:Int)≠0:=by rcases zbk f with h|h<;>rw[h]<;>decide
 obtain⟨hi0,hix⟩:=zai (yF f) hlen0 hm.1 []
 have hxs:=zkw hm.1
 have hxa:=zdy hm.1
 have hxf:=zha hm.1
 have er:(H.next == r)=false:=zF (by omega)
 have e41:=zL f 4 1 L1
 have e50:=zL f 5 0 L1
 have e32:=zL f 3 2 L1
 have hwd:IntKind.wrap .i64 ((deep:Int)+1)=((deep+1:Nat):Int):=ya (by omega)
 unfold zcG
 generalize hR:jH (zi8 f k deep) f L1 c q m=R
 rw[jH]at hR
 dsimp only[zbl,scR,zd7]
 repeat' (first
  | (apply Rx.nl ?_;clear hK K)|apply Ry.o ?_|(apply Ry.cd (fun hb hbp=>?_) (fun hb hbp=>?_)<;>try (cases hb;done))|apply Wp.seq ?_|(apply zd fun K hK=>?_)|(apply zf 8 [(3,9),(3,11),(6,9),(6,11)] fun K hK=>?_)|(apply zf 10 [(0,7),(0,10),(0,12),(4,7),(4,10),(4,12)] fun K hK=>?_)|(apply zf 24 [(3,14),(6,14),(7,14),(11,14),(13,14)] fun K hK=>?_)|(apply zf 28 [(1,4),(1,6),(5,6)] fun K hK=>?_)|(apply zr ?_;try intro _)|(apply zt ?_ ?_<;>clear hK K)|apply WpT.step ?_|apply zm rfl ?_|apply Wp.block ?_|apply Rx.rt ?_)

 refine WpL.call rfl eVk eAk ?_;simp only[List.cons_append,List.nil_append,List.append_nil]
 refine zu.mono ?_ (jr hG 3 f 2 (by omega) (by omega) lo _ r L1 c (hr2.keep (Nat.le_succ _) fun q hq=>by rw[za,if_neg (by omega)]) (by omega))
 rintro v H4 ⟨⟨al,rfl,ha1,ha2,ha3⟩,hr4,n4,o4⟩
 simp only[zb]at n4 o4 ha3
 obtain⟨a0,a1,a2,a3,a4,rfl⟩:=zcL ha1
 obtain⟨u0,u1,u2,u3,u4⟩:=zi7 ha2
 have g4s:H4.get (H.next+1)=some (.cells [.str [97],.str [98]] 0 true):=by rw[o4 _ (by omega) (by omega),za,if_pos (by omega)]
 dsimp only[zA]
 repeat' (first
  | (apply Rx.nl ?_;clear hK K)|apply Rx.o ?_|apply Rx.on ?_|apply Wp.seq ?_|(apply zd fun K hK=>?_)|(apply zf 8 [(3,9),(3,11),(6,9),(6,11)] fun K hK=>?_)|(apply zf 10 [(0,7),(0,10),(0,12),(4,7),(4,10),(4,12)] fun K hK=>?_)|(apply zf 24 [(3,14),(6,14),(7,14),(11,14),(13,14)] fun K hK=>?_)|(apply zf 28 [(1,4),(1,6),(5,6)] fun K hK=>?_)|(apply zr ?_;try intro _)|(apply zt ?_ ?_<;>clear hK K)|apply WpT.step ?_|apply zm rfl ?_|apply Wp.block ?_|apply Rx.rt ?_)
 refine WpL.call rfl eVk eAk ?_;simp only[List.cons_append,List.nil_append,List.append_nil]
 refine zu.mono ?_ (jr hG 4 f 1 (by omega) (by omega) lo H4 r _ c hr4 (by omega))
 rintro v H5 ⟨⟨cs,rfl,hc1,hc2,hc3⟩,hr5,n5,o5⟩
 obtain⟨v0,v1,v2,v3,v4,rfl⟩:=zcL hc1
 obtain⟨w0,w1,w2,w3,w4⟩:=zi7 hc2
 have g5s:H5.get (H.next+1)=some (.cells [.str [97],.str [98]] 0 true):=by rw[o5 _ (by omega) (by omega)];exact g4s
 have g5:H5.get H.next=some (.cells [.int .i64 0,.str [],.str [],.int .i64 0,.int .i64 0,.int .i64 0,.str [],.int .i64 0,.nilS,.int .i64 0,.int .i64 0,.str [],.int .i64 0,.nilS,.nilS,.nilS,.nilS] 0 true):=by rw[o5 _ (by omega) (by omega),o4 _ (by omega) (by omega),za,if_neg (by omega)];exact g2
 dsimp only[zA]
 repeat' (first
  | (apply Rx.nl ?_;clear hK K)|apply Rx.o ?_|apply Rx.on ?_|apply Wp.seq ?_|(apply zd fun K hK=>?_)|(apply zf 8 [(3,9),(3,11),(6,9),(6,11)] fun K hK=>?_)|(apply zf 10 [(0,7),(0,10),(0,12),(4,7),(4,10),(4,12)] fun K hK=>?_)|(apply zf 24 [(3,14),(6,14),(7,14),(11,14),(13,14)] fun K hK=>?_)|(apply zf 28 [(1,4),(1,6),(5,6)] fun K hK=>?_)|(apply zr ?_;try intro _)|(apply zt ?_ ?_<;>clear hK K)|apply WpT.step ?_|apply zm rfl ?_|apply Wp.block ?_|apply Rx.rt ?_)
 ·exact eK
 ·refine⟨eI,_,(by(try simp only[sB,sO,Nat.reduceBEq,Nat.reduceAdd,Nat.reduceLeDiff,tyF,zQ,yb,zkx, *]);first|done|with_reducible rfl),?_⟩;try simp only[zp]
  rw[if_neg (by omega),if_pos (by omega)]at hR
  subst hR
  refine zfg rfl (by simp only[List.all_cons,List.all_nil,u0,u1,u2,u3,u4,w0,w1,w2,w3,w4,Bool.and_true];rfl) (zdz (n:=8+k) 2 _ [] 0 ((ha3.up (by omega)).keep2 (fun q _ hq=>by omega) (by simp only[ze];omega) fun q h1 h2=>by rw[Hp.get_set,if_neg (by omega),o5 _ (by omega) (by omega)]) ((hc3.up (by omega)).keep2 (fun q _ hq=>by omega) (by simp only[ze];omega) fun q h1 h2=>by rw[Hp.get_set,if_neg (by omega)]) .nilS .nilS .nilS) ?_ ?_ ?_
  ·exact hr5.keep (by simp only[ze];omega) fun q hq=>by rw[Hp.get_set,if_neg (by omega)]
  ·simp only[ze];omega
  ·intro q h1 h2
   rw[Hp.get_set,if_neg (by omega),o5 _ (by omega) h2,o4 _ (by omega) h2,za,if_neg (by omega)]
   exact o2' q h1 h2
set_option maxRecDepth 100000 in
theorem zrP {lG:List En} (hG:GenL lG) {k:Nat}{f:Int}{deep lo:Nat}{H H2:Hp}{r:Nat}{L1:List Int}{c q m:Int}{E2:Env} (hst:deep≤2→zah lG k f (deep+1)) (hat:AtT f deep lo H H2 r L1 c q m E2) (hn0:¬ q < 6) (hn1:¬ q < 8) (hn2:¬ q < 10) (hn3:¬ q < 12) (hp0:q < 14):Wp Try.prog (zJ pls lG) 55 156 zbl E2 H2 (zcG k f deep lo H r L1 c q m):=by
 obtain⟨hd,hrl,hlo,n2,g2,o2',hr2,hL1,hm,hqd,k0,k1,k2,k6,k8,k9,k10⟩:=hat
 have hkeep:(zJ pls lG).keep 55=false:=rfl
 have hq2:(2:Int)≠0:=by decide
 have hlen0:((yF f).length:Int)≠0:=by rcases zbk f with h|h<;>rw[h]<;>decide
 obtain⟨hi0,hix⟩:=zai (yF f) hlen0 hm.1 []
 have hxs:=zkw hm.1
 have hxa:=zdy hm.1
 have hxf:=zha hm.1
 have er:(H.next == r)=false:=zF (by omega)
 have e41:=zL f 4 1 L1
 have e50:=zL f 5 0 L1
 have e32:=zL f 3 2 L1
 have hwd:IntKind.wrap .i64 ((deep:Int)+1)=((deep+1:Nat):Int):=ya (by omega)
 unfold zcG
 generalize hR:jH (zi8 f k deep) f L1 c q m=R
 rw[jH]at hR
 dsimp only[zbl,scR,zd7]
 repeat' (first
  | (apply Rx.nl ?_;clear hK K)|apply Ry.o ?_|(apply Ry.cd (fun hb hbp=>?_) (fun hb hbp=>?_)<;>try (cases hb;done))|apply Wp.seq ?_|(apply zd fun K hK=>?_)|apply Wp.block ?_|apply Rx.rt ?_)

 refine WpL.call rfl eVk eAk ?_;simp only[List.cons_append,List.nil_append,List.append_nil]
 refine zu.mono ?_ (jr hG 4 f 1 (by omega) (by omega) lo _ r L1 c hr2 (by omega))
 rintro v H4 ⟨⟨cs,rfl,hc1,hc2,hc3⟩,hr4,n4,o4⟩
 obtain⟨v0,v1,v2,v3,v4,rfl⟩:=zcL hc1
 obtain⟨w0,w1,w2,w3,w4⟩:=zi7 hc2
 have g4:H4.get H.next=some (.cells [.int .i64 0,.str [],.str [],.int .i64 0,.int .i64 0,.int .i64 0,.str [],.int .i64 0,.nilS,.int .i64 0,.int .i64 0,.str [],.int .i64 0,.nilS,.nilS,.nilS,.nilS] 0 true):=by rw[o4 _ (by omega) (by omega)];exact g2
 dsimp only[zA]
 repeat' (first
  | (apply Rx.nl ?_;clear hK K)|apply Rx.o ?_|apply Rx.on ?_|apply Wp.seq ?_|(apply zd fun K hK=>?_)|apply Wp.block ?_|apply Rx.rt ?_)
 refine⟨eI,_,(by(try simp only[sB,sO,Nat.reduceBEq,Nat.reduceAdd,Nat.reduceLeDiff,tyF,zQ,yb,zkx, *]);first|done|with_reducible rfl),?_⟩;try simp only[zp]
 rw[if_neg (by omega),if_neg (by omega),if_neg (by omega),if_neg (by omega),if_pos (by omega)]at hR
 subst hR
 refine zfg rfl (by simp only[List.all_cons,List.all_nil,w0,w1,w2,w3,w4,Bool.and_true];rfl) (zdz (n:=8+k) 5 [] [] 0 zl1 ((hc3.up (by omega)).keep2 (fun q _ hq=>by omega) (by simp only[ze];omega) fun q h1 h2=>by rw[Hp.get_set,if_neg (by omega)]) .nilS .nilS .nilS) ?_ ?_ ?_
 ·exact hr4.keep (by simp only[ze];omega) fun q hq=>by rw[Hp.get_set,if_neg (by omega)]
 ·simp only[ze];omega
 ·intro q h1 h2
  rw[Hp.get_set,if_neg (by omega),o4 _ (by omega) h2]
  exact o2' q h1 h2
set_option maxRecDepth 100000 in
theorem zpA {lG:List En} (hG:GenL lG) {k:Nat}{f:Int}{deep lo:Nat}{H H2:Hp}{r:Nat}{L1:List Int}{c q m:Int}{E2:Env} (hst:deep≤2→zah lG k f (deep+1)) (hat:AtT f deep lo H H2 r L1 c q m E2) (hn0:¬ q < 6) (hn1:¬ q < 8) (hn2:¬ q < 10) (hn3:¬ q < 12) (hn4:¬ q < 14) (hn5:¬ q < 15)  : Wp Try.prog (zJ pls lG) 55 156 zbl E2 H2 (zcG k f deep lo H r L1 c q m):=by
 obtain⟨hd,hrl,hlo,n2,g2,o2',hr2,hL1,hm,hqd,k0,k1,k2,k6,k8,k9,k10⟩:=hat
 have hkeep:(zJ pls lG).keep 55=false:=rfl
 have hq2:(2:Int)≠0:=by decide
 have hlen0:((yF f).length:Int)≠0:=by rcases zbk f with h|h<;>rw[h]<;>decide
 obtain⟨hi0,hix⟩:=zai (yF f) hlen0 hm.1 []
 have hxs:=zkw hm.1
 have hxa:=zdy hm.1
 have hxf:=zha hm.1
 have er:(H.next == r)=false:=zF (by omega)
 have e41:=zL f 4 1 L1
 have e50:=zL f 5 0 L1
 have e32:=zL f 3 2 L1
 have hwd:IntKind.wrap .i64 ((deep:Int)+1)=((deep+1:Nat):Int):=ya (by omega)
 unfold zcG
 generalize hR:jH (zi8 f k deep) f L1 c q m=R
 rw[jH]at hR
 dsimp only[zbl,scR,zd7]
 repeat' (first
  | (apply Rx.nl ?_;clear hK K)|apply Ry.o ?_|apply Ry.on ?_|(apply Ry.cd (fun hb hbp=>?_) (fun hb hbp=>?_)<;>try (cases hb;done))|apply Wp.seq ?_|(apply zd fun K hK=>?_)|apply Wp.block ?_|apply zh ?_|apply Rx.rt ?_)

 refine⟨eI,_,(by(try simp only[sB,sO,Nat.reduceBEq,Nat.reduceAdd,Nat.reduceLeDiff,tyF,zQ,yb,zkx, *]);first|done|with_reducible rfl),?_⟩;try simp only[zp]
 rw[if_neg (by omega),if_neg (by omega),if_neg (by omega),if_neg (by omega),if_neg (by omega),if_neg (by omega)]at hR
 subst hR
 refine zfg rfl rfl (zdz (n:=8+k) 7 [] [] _ zl1 zl1 .nilS .nilS .nilS) ?_ ?_ ?_
 ·exact hr2.keep (by simp only[ze];omega) fun q hq=>by rw[Hp.get_set,if_neg (by omega)]
 ·simp only[ze];omega
 ·intro q h1 h2
  rw[Hp.get_set,if_neg (by omega)]
  exact o2' q h1 h2
end Go.Proofs.Ytpbcimfiofmoeaa
namespace Go.Proofs.Ytpbcimfiofmoeaa
set_option maxRecDepth 20000
set_option maxRecDepth 20000
open Go Go.Ab
namespace tyG5b
def tyF:=And.intro @tq3 (And.intro @tq9 (And.intro @zcf (And.intro @zcg (And.intro @zbb (And.intro @zbc (And.intro @zay (And.intro @zbx (And.intro @tq77 (And.intro @zfD (And.intro @kb7 (And.intro @zkx (And.intro @nms2 (And.intro @kb3 (And.intro @zS17 (@kb6)))))))))))))))
end tyG5b
open tyG5b
set_option maxRecDepth 100000 in
theorem zvR {lG:List En} (hG:GenL lG) {k:Nat}{f:Int}{deep lo:Nat}{H H2:Hp}{r:Nat}{L1:List Int}{c q m:Int}{E2:Env} (hst:deep≤2→zah lG k f (deep+1)) (hat:AtT f deep lo H H2 r L1 c q m E2) (hn0:¬ q < 6) (hn1:¬ q < 8) (hp0:q < 10):Wp Try.prog (zJ pls lG) 55 156 zbl E2 H2 (zcG k f deep lo H r L1 c q m):=by
 obtain⟨hd,hrl,hlo,n2,g2,o2',hr2,hL1,hm,hqd,k0,k1,k2,k6,k8,k9,k10⟩:=hat
 have hkeep:(zJ pls lG).keep 55=false:=rfl
 have hq2:(2:Int)≠0:=by decide
 have hlen0:((yF f).length:Int)≠0:=by rcases zbk f with h|h<;>rw[h]<;>decide
 obtain⟨hi0,hix⟩:=zai (yF f) hlen0 hm.1 []
 have hxs:=zkw hm.1
 have hxa:=zdy hm.1
 have hxf:=zha hm.1
 have er:(H.next == r)=false:=zF (by omega)
 have e41:=zL f 4 1 L1
 have e50:=zL f 5 0 L1
 have e32:=zL f 3 2 L1
 have hwd:IntKind.wrap .i64 ((deep:Int)+1)=((deep+1:Nat):Int):=ya (by omega)
 unfold zcG
 generalize hR:jH (zi8 f k deep) f L1 c q m=R
 rw[jH]at hR
 dsimp only[zbl,scR,zd7]
 repeat' (first
  | (apply Rx.nl ?_;clear hK K)|apply Ry.o ?_|(apply Ry.cd (fun hb hbp=>?_) (fun hb hbp=>?_)<;>try (cases hb;done))|apply Wp.seq ?_|(apply zd fun K hK=>?_)|apply Wp.block ?_|apply Rx.rt ?_)

 refine WpL.call rfl eVk eAk ?_;simp only[List.cons_append,List.nil_append,List.append_nil]
 refine zu.mono ?_ (jr hG 4 f 1 (by omega) (by omega) lo _ r L1 c hr2 (by omega))
 rintro v H4 ⟨⟨cs,rfl,hc1,hc2,hc3⟩,hr4,n4,o4⟩
 obtain⟨v0,v1,v2,v3,v4,rfl⟩:=zcL hc1
 obtain⟨w0,w1,w2,w3,w4⟩:=zi7 hc2
 dsimp only[zA]
 repeat' (first
  | (apply Rx.nl ?_;clear hK K)|apply Rx.o ?_|apply Rx.on ?_|apply Wp.seq ?_|(apply zd fun K hK=>?_)|apply Wp.block ?_|apply Rx.rt ?_)
 generalize hHa:Hp.set (Hp.alloc H4 _) H4.next _=Ha
 have na:Ha.next=H4.next+1:=by rw[← hHa];rfl
 have oa:∀ q,q < H4.next→Ha.get q=H4.get q:=fun q hq=>by rw[← hHa,Hp.get_set,if_neg (by omega),za,if_neg (by omega)]
 have ga:Ha.get H4.next=some (.cells [.int .i64 3,.str [],.str [],.int .i64 0,.int .i64 0,.int .i64 0,.str [],.int .i64 0,.nilS,v0,v1,v2,v3,v4,.nilS,.nilS,.nilS] 0 true):=by rw[← hHa,Hp.get_set,if_pos rfl]
 clear hHa
 refine WpL.call rfl eVk eAk ?_;simp only[List.cons_append,List.nil_append,List.append_nil]
 refine zu.mono ?_ (zd9 hG (hst (by omega)) 3 (by omega) (by omega) lo Ha r ((zG f 4 1 L1).2,c) (hr4.keep (by omega) fun q hq=>oa q (by omega)) (by simp only[];omega))
 rintro tv H5 ⟨hrow5,hr5,n5,o5⟩
 have hl5:(zae f k (deep+1) 3 ((zG f 4 1 L1).2,c)).2.1.length≤(zG f 4 1 L1).2.length:=Nat.le_trans (zd8 (zc5 f k (deep+1)) _ _) (yN _)
 obtain⟨t1,t2⟩:=hrow5.one
 have g5:H5.get H4.next=some (.cells [.int .i64 3,.str [],.str [],.int .i64 0,.int .i64 0,.int .i64 0,.str [],.int .i64 0,.nilS,v0,v1,v2,v3,v4,.nilS,.nilS,.nilS] 0 true):=by rw[o5 _ (by omega) (by omega)];exact ga
 dsimp only[zA]
 repeat' (first
  | (apply Rx.nl ?_;clear hK K)|apply Rx.o ?_|apply Rx.on ?_|apply Wp.seq ?_|(apply zd fun K hK=>?_)|apply Wp.block ?_|apply Rx.rt ?_)
 generalize hHb:Hp.set H5 H4.next _=Hb
 have nb:Hb.next=H5.next:=by rw[← hHb];rfl
 have ob:∀ q,q≠H4.next→Hb.get q=H5.get q:=fun q hq=>by rw[← hHb,Hp.get_set,if_neg hq]
 have gb:Hb.get H4.next=some (.cells [.int .i64 3,.str [],.str [],.int .i64 0,.int .i64 0,.int .i64 0,.str [],.int .i64 0,.nilS,v0,v1,v2,v3,v4,.nilS,tv,.nilS] 0 true):=by rw[← hHb,Hp.get_set,if_pos rfl]
 clear hHb
 refine WpL.call rfl eVk eAk ?_;simp only[List.cons_append,List.nil_append,List.append_nil]
 refine zu.mono ?_ (zd9 hG (hst (by omega)) 2 (by omega) (by omega) lo Hb r (zae f k (deep+1) 3 ((zG f 4 1 L1).2,c)).2 (hr5.keep (by omega) fun q hq=>ob q (by omega)) (by omega))
 rintro uv H6 ⟨hrow6,hr6,n6,o6⟩
 obtain⟨p1,p2⟩:=hrow6.one
 have g6t:H6.get H4.next=some (.cells [.int .i64 3,.str [],.str [],.int .i64 0,.int .i64 0,.int .i64 0,.str [],.int .i64 0,.nilS,v0,v1,v2,v3,v4,.nilS,tv,.nilS] 0 true):=by rw[o6 _ (by omega) (by omega)];exact gb
 have g6:H6.get H.next=some (.cells [.int .i64 0,.str [],.str [],.int .i64 0,.int .i64 0,.int .i64 0,.str [],.int .i64 0,.nilS,.int .i64 0,.int .i64 0,.str [],.int .i64 0,.nilS,.nilS,.nilS,.nilS] 0 true):=by rw[o6 _ (by omega) (by omega),ob _ (by omega),o5 _ (by omega) (by omega),oa _ (by omega),o4 _ (by omega) (by omega)];exact g2
 have e46:(H.next == H4.next)=false:=zF (by omega)
 have e64:(H4.next == H.next)=false:=zF (by omega)
 dsimp only[zA]
 repeat' (first
  | (apply Rx.nl ?_;clear hK K)|apply Rx.o ?_|apply Rx.on ?_|apply Wp.seq ?_|(apply zd fun K hK=>?_)|apply Wp.block ?_|apply Rx.rt ?_)
 refine⟨eI,_,(by(try simp only[sB,sO,Nat.reduceBEq,Nat.reduceAdd,Nat.reduceLeDiff,tyF,zQ,yb,zkx, *]);first|done|with_reducible rfl),?_⟩;try simp only[zp]
 rw[if_neg (by omega),if_neg (by omega),if_pos (by omega)]at hR
 subst hR
 have hk6:∀ q,Hb.next≤q→q < H6.next→((H6.set H4.next (.cells [.int .i64 3,.str [],.str [],.int .i64 0,.int .i64 0,.int .i64 0,.str [],.int .i64 0,.nilS,v0,v1,v2,v3,v4,.nilS,tv,uv] 0 true)).set H.next (.cells [.int .i64 3,.str [],.str [],.int .i64 0,.int .i64 0,.int .i64 0,.str [],.int .i64 0,.nilS,v0,v1,v2,v3,v4,.nilS,tv,uv] 0 true)).get q=H6.get q:=fun q h1 h2=>by rw[Hp.get_set,if_neg (by omega),Hp.get_set,if_neg (by omega)]
 have hk5:∀ q,Ha.next≤q→q < H5.next→((H6.set H4.next (.cells [.int .i64 3,.str [],.str [],.int .i64 0,.int .i64 0,.int .i64 0,.str [],.int .i64 0,.nilS,v0,v1,v2,v3,v4,.nilS,tv,uv] 0 true)).set H.next (.cells [.int .i64 3,.str [],.str [],.int .i64 0,.int .i64 0,.int .i64 0,.str [],.int .i64 0,.nilS,v0,v1,v2,v3,v4,.nilS,tv,uv] 0 true)).get q=H5.get q:=fun q h1 h2=>by rw[Hp.get_set,if_neg (by omega),Hp.get_set,if_neg (by omega),o6 _ (by omega) (by omega),ob _ (by omega)]
 refine zfg rfl (by simp only[List.all_cons,List.all_nil,w0,w1,w2,w3,w4,t1,p1,Bool.and_true];rfl) (zdz (n:=8+k) 3 [] [] 0 zl1 ((hc3.up (by omega)).keep2 (fun q _ hq=>by omega) (by simp only[ze];omega) fun q h1 h2=>by rw[Hp.get_set,if_neg (by omega),Hp.get_set,if_neg (by omega),o6 _ (by omega) (by omega),ob _ (by omega),o5 _ (by omega) (by omega),oa _ (by omega)]) .nilS (hrow5.keep (fun q _ hq=>by omega) (by simp only[ze];omega) fun q h1 h2=>hk5 q h1 h2).rd (hrow6.keep (fun q _ hq=>by omega) (by simp only[ze];omega) fun q h1 h2=>hk6 q h1 h2).rd) ?_ ?_ ?_
 ·exact hr6.keep (by simp only[ze];omega) fun q hq=>by rw[Hp.get_set,if_neg (by omega),Hp.get_set,if_neg (by omega)]
 ·simp only[ze];omega
 ·intro q h1 h2
  rw[Hp.get_set,if_neg (by omega),Hp.get_set,if_neg (by omega),o6 _ (by omega) h2,ob _ (by omega),o5 _ (by omega) h2,oa _ (by omega),o4 _ (by omega) h2]
  exact o2' q h1 h2
set_option maxRecDepth 100000 in
theorem znu {lG:List En} (hG:GenL lG) {k:Nat}{f:Int}{deep lo:Nat}{H H2:Hp}{r:Nat}{L1:List Int}{c q m:Int}{E2:Env} (hst:deep≤2→zah lG k f (deep+1)) (hat:AtT f deep lo H H2 r L1 c q m E2) (hn0:¬ q < 6) (hn1:¬ q < 8) (hn2:¬ q < 10) (hp0:q < 12):Wp Try.prog (zJ pls lG) 55 156 zbl E2 H2 (zcG k f deep lo H r L1 c q m):=by
 obtain⟨hd,hrl,hlo,n2,g2,o2',hr2,hL1,hm,hqd,k0,k1,k2,k6,k8,k9,k10⟩:=hat
 have hkeep:(zJ pls lG).keep 55=false:=rfl
 have hq2:(2:Int)≠0:=by decide
 have hlen0:((yF f).length:Int)≠0:=by rcases zbk f with h|h<;>rw[h]<;>decide
 obtain⟨hi0,hix⟩:=zai (yF f) hlen0 hm.1 []
 have hxs:=zkw hm.1
 have hxa:=zdy hm.1
 have hxf:=zha hm.1
 have er:(H.next == r)=false:=zF (by omega)
 have e41:=zL f 4 1 L1
 have e50:=zL f 5 0 L1
 have e32:=zL f 3 2 L1
 have hwd:IntKind.wrap .i64 ((deep:Int)+1)=((deep+1:Nat):Int):=ya (by omega)
 unfold zcG
 generalize hR:jH (zi8 f k deep) f L1 c q m=R
 rw[jH]at hR
 dsimp only[zbl,scR,zd7]
 repeat' (first
  | (apply Rx.nl ?_;clear hK K)|apply Ry.o ?_|(apply Ry.cd (fun hb hbp=>?_) (fun hb hbp=>?_)<;>try (cases hb;done))|apply Wp.seq ?_|(apply zd fun K hK=>?_)|apply Wp.block ?_|apply Rx.rt ?_)

 obtain⟨lv,hg,htick⟩:=hr2.tick
 have hcw:IntKind.wrap .i64 (c+1)=w64 (c+1):=rfl
 repeat' (first
  | (apply Rx.nl ?_;clear hK K)|apply Rx.o ?_|apply Rx.on ?_|apply Wp.seq ?_|(apply zd fun K hK=>?_)|apply Wp.block ?_|apply Rx.rt ?_)
 generalize hHt:Hp.set _ r _=Ht
 have nt:Ht.next=H.next+1:=by rw[← hHt];simpa using n2
 have ot:∀ q,q≠r→Ht.get q=_:=fun q hq=>by rw[← hHt,Hp.get_set,if_neg hq]
 have hrt:zcr lo Ht r L1 (w64 (c+1)):=by rw[← hHt];exact htick _
 have gt:Ht.get H.next=some (.cells [.int .i64 0,.str [],.str [],.int .i64 0,.int .i64 0,.int .i64 0,.str [],.int .i64 0,.nilS,.int .i64 0,.int .i64 0,.str [],.int .i64 0,.nilS,.nilS,.nilS,.nilS] 0 true):=by rw[ot _ (by omega)];exact g2
 clear hHt
 refine WpL.call rfl eVk eAk ?_;simp only[List.cons_append,List.nil_append,List.append_nil]
 refine zu.mono ?_ (jr hG 4 f 1 (by omega) (by omega) lo Ht r L1 _ hrt (by omega))
 rintro v H4 ⟨⟨cs,rfl,hc1,hc2,hc3⟩,hr4,n4,o4⟩
 obtain⟨v0,v1,v2,v3,v4,rfl⟩:=zcL hc1
 obtain⟨w0,w1,w2,w3,w4⟩:=zi7 hc2
 dsimp only[zA]
 repeat' (first
  | (apply Rx.nl ?_;clear hK K)|apply Rx.o ?_|apply Rx.on ?_|apply Wp.seq ?_|(apply zd fun K hK=>?_)|apply Wp.block ?_|apply Rx.rt ?_)
 generalize hHa:Hp.set (Hp.alloc H4 _) H4.next _=Ha
 have na:Ha.next=H4.next+1:=by rw[← hHa];rfl
 have oa:∀ q,q < H4.next→Ha.get q=H4.get q:=fun q hq=>by rw[← hHa,Hp.get_set,if_neg (by omega),za,if_neg (by omega)]
 have ga:Ha.get H4.next=some (.cells [.int .i64 4,.str [],.str [],.int .i64 0,.int .i64 0,.int .i64 0,.str [],.int .i64 0,.nilS,v0,v1,v2,v3,v4,.nilS,.nilS,.nilS] 0 true):=by rw[← hHa,Hp.get_set,if_pos rfl]
 clear hHa
 refine WpL.call rfl eVk eAk ?_;simp only[List.cons_append,List.nil_append,List.append_nil]
 refine zu.mono ?_ (zd9 hG (hst (by omega)) 3 (by omega) (by omega) lo Ha r ((zG f 4 1 L1).2,w64 (c+1)) (hr4.keep (by omega) fun q hq=>oa q (by omega)) (by simp only[];omega))
 rintro tv H5 ⟨hrow5,hr5,n5,o5⟩
 obtain⟨t1,t2⟩:=hrow5.one
 have g5:H5.get H4.next=some (.cells [.int .i64 4,.str [],.str [],.int .i64 0,.int .i64 0,.int .i64 0,.str [],.int .i64 0,.nilS,v0,v1,v2,v3,v4,.nilS,.nilS,.nilS] 0 true):=by rw[o5 _ (by omega) (by omega)];exact ga
 have g6:H5.get H.next=some (.cells [.int .i64 0,.str [],.str [],.int .i64 0,.int .i64 0,.int .i64 0,.str [],.int .i64 0,.nilS,.int .i64 0,.int .i64 0,.str [],.int .i64 0,.nilS,.nilS,.nilS,.nilS] 0 true):=by rw[o5 _ (by omega) (by omega),oa _ (by omega),o4 _ (by omega) (by omega)];exact gt
 have e46:(H.next == H4.next)=false:=zF (by omega)
 have e64:(H4.next == H.next)=false:=zF (by omega)
 dsimp only[zA]
 repeat' (first
  | (apply Rx.nl ?_;clear hK K)|apply Rx.o ?_|apply Rx.on ?_|apply Wp.seq ?_|(apply zd fun K hK=>?_)|apply Wp.block ?_|apply Rx.rt ?_)
 refine⟨eI,_,(by(try simp only[sB,sO,Nat.reduceBEq,Nat.reduceAdd,Nat.reduceLeDiff,tyF,zQ,yb,zkx, *]);first|done|with_reducible rfl),?_⟩;try simp only[zp]
 rw[if_neg (by omega),if_neg (by omega),if_neg (by omega),if_pos (by omega)]at hR
 subst hR
 have hk5:∀ q,Ha.next≤q→q < H5.next→((H5.set H4.next (.cells [.int .i64 4,.str [],.str [],.int .i64 0,.int .i64 0,.int .i64 0,.str [],.int .i64 0,.nilS,v0,v1,v2,v3,v4,.nilS,tv,.nilS] 0 true)).set H.next (.cells [.int .i64 4,.str [],.str [],.int .i64 0,.int .i64 0,.int .i64 0,.str [],.int .i64 0,.nilS,v0,v1,v2,v3,v4,.nilS,tv,.nilS] 0 true)).get q=H5.get q:=fun q h1 h2=>by rw[Hp.get_set,if_neg (by omega),Hp.get_set,if_neg (by omega)]
 refine zfg rfl (by simp only[List.all_cons,List.all_nil,w0,w1,w2,w3,w4,t1,Bool.and_true];rfl) (zdz (n:=8+k) 4 [] [] 0 zl1 ((hc3.up (by omega)).keep2 (fun q _ hq=>by omega) (by simp only[ze];omega) fun q h1 h2=>by rw[Hp.get_set,if_neg (by omega),Hp.get_set,if_neg (by omega),o5 _ (by omega) (by omega),oa _ (by omega)]) .nilS (hrow5.keep (fun q _ hq=>by omega) (by simp only[ze];omega) fun q h1 h2=>hk5 q h1 h2).rd .nilS) ?_ ?_ ?_
 ·exact hr5.keep (by simp only[ze];omega) fun q hq=>by rw[Hp.get_set,if_neg (by omega),Hp.get_set,if_neg (by omega)]
 ·simp only[ze];omega
 ·intro q h1 h2
  rw[Hp.get_set,if_neg (by omega),Hp.get_set,if_neg (by omega),o5 _ (by omega) h2,oa _ (by omega),o4 _ (by omega) h2,ot _ h2]
  exact o2' q h1 h2
set_option maxRecDepth 100000 in
theorem zpB {lG:List En} (hG:GenL lG) {k:Nat}{f:Int}{deep lo:Nat}{H H2:Hp}{r:Nat}{L1:List Int}{c q m:Int}{E2:Env} (hst:deep≤2→zah lG k f (deep+1)) (hat:AtT f deep lo H H2 r L1 c q m E2) (hn0:¬ q < 6) (hn1:¬ q < 8) (hn2:¬ q < 10) (hn3:¬ q < 12) (hn4:¬ q < 14) (hp0:q < 15):Wp Try.prog (zJ pls lG) 55 156 zbl E2 H2 (zcG k f deep lo H r L1 c q m):=by
 obtain⟨hd,hrl,hlo,n2,g2,o2',hr2,hL1,hm,hqd,k0,k1,k2,k6,k8,k9,k10⟩:=hat
 have hkeep:(zJ pls lG).keep 55=false:=rfl
 have hq2:(2:Int)≠0:=by decide
 have hlen0:((yF f).length:Int)≠0:=by rcases zbk f with h|h<;>rw[h]<;>decide
 obtain⟨hi0,hix⟩:=zai (yF f) hlen0 hm.1 []
 have hxs:=zkw hm.1
 have hxa:=zdy hm.1
 have hxf:=zha hm.1
 have er:(H.next == r)=false:=zF (by omega)
 have e41:=zL f 4 1 L1
 have e50:=zL f 5 0 L1
 have e32:=zL f 3 2 L1
 have hwd:IntKind.wrap .i64 ((deep:Int)+1)=((deep+1:Nat):Int):=ya (by omega)
 unfold zcG
 generalize hR:jH (zi8 f k deep) f L1 c q m=R
 rw[jH]at hR
 dsimp only[zbl,scR,zd7]
 repeat' (first
  | (apply Rx.nl ?_;clear hK K)|apply Ry.o ?_|apply Ry.on ?_|(apply Ry.cd (fun hb hbp=>?_) (fun hb hbp=>?_)<;>try (cases hb;done))|apply Wp.seq ?_|(apply zd fun K hK=>?_)|(apply zf 8 [(3,9),(3,11),(6,9),(6,11)] fun K hK=>?_)|(apply zf 10 [(0,7),(0,10),(0,12),(4,7),(4,10),(4,12)] fun K hK=>?_)|(apply zf 24 [(3,14),(6,14),(7,14),(11,14),(13,14)] fun K hK=>?_)|(apply zf 28 [(1,4),(1,6),(5,6)] fun K hK=>?_)|(apply zr ?_;try intro _)|(apply zt ?_ ?_<;>clear hK K)|apply WpT.step ?_|apply zm rfl ?_|apply Wp.block ?_|apply zh ?_|apply Rx.rt ?_|apply zj ?_)

 repeat' (first
  | (apply Rx.nl ?_;clear hK K)|apply Rx.o ?_|apply Rx.on ?_|(apply Rx.cd (fun hb hbp=>?_) (fun hb hbp=>?_)<;>try (cases hb;done))|apply Wp.seq ?_|(apply zd fun K hK=>?_)|(apply zf 8 [(3,9),(3,11),(6,9),(6,11)] fun K hK=>?_)|(apply zf 10 [(0,7),(0,10),(0,12),(4,7),(4,10),(4,12)] fun K hK=>?_)|(apply zf 24 [(3,14),(6,14),(7,14),(11,14),(13,14)] fun K hK=>?_)|(apply zf 28 [(1,4),(1,6),(5,6)] fun K hK=>?_)|(apply zr ?_;try intro _)|(apply zt ?_ ?_<;>clear hK K)|apply WpT.step ?_|apply zm rfl ?_|apply Wp.block ?_|apply zh ?_|apply Rx.rt ?_|apply zj ?_)
 ·exact eK
 generalize hHa:Hp.set (Hp.alloc (Hp.alloc _ _) _) _ _=Ha
 have na:Ha.next=H.next+3:=by rw[← hHa];simp only[ze,zb];omega
 have oa:∀ q,q < H.next→q≠r→Ha.get q=H.get q:=fun q h1 h2=>by
  rw[← hHa,Hp.get_set,if_neg (by omega),za,if_neg (by simp only[zb];omega),za,if_neg (by omega)];exact o2' q h1 h2
 have gz:Ha.get H.next=some (.cells [.int .i64 0,.str [],.str [],.int .i64 0,.int .i64 0,.int .i64 0,.str [],.int .i64 0,.nilS,.int .i64 0,.int .i64 0,.str [],.int .i64 0,.nilS,.nilS,.nilS,.nilS] 0 true):=by
  rw[← hHa,Hp.get_set,if_neg (by omega),za,if_neg (by simp only[zb];omega),za,if_neg (by omega)];exact g2
 have hra:zcr lo Ha r L1 c:=by
  rw[← hHa]
  exact hr2.keep (by simp only[ze,zb];omega) fun q hq=>by rw[Hp.get_set,if_neg (by omega),za,if_neg (by simp only[zb];omega),za,if_neg (by omega)]
 have ga:Ha.get (H.next+2)=some (.cells [.int .i64 6,.str ((yF f).getD (m.tmod (yF f).length).toNat []),.str (fgG m),.int .i64 0,.int .i64 0,.int .i64 0,.str [],.int .i64 0,.nilS,.int .i64 0,.int .i64 0,.str [],.int .i64 0,.nilS,.nilS,.nilS,.nilS] 0 true):=by rw[← hHa,Hp.get_set,if_pos (by omega)]
 clear hHa
 have htm:0≤m.tmod 2∧m.tmod 2 < 2:=tm2 hm.1
 have hw2:IntKind.wrap .i64 (2 - m.tmod 2)=2 - m.tmod 2:=zav (by omega) (by omega)
 generalize hcnt:(2 - m.tmod 2).toNat=cnt at *
 have hcn:2 - m.tmod 2=(cnt:Int):=by omega
 rw[hcn]at hw2
 refine yj [0,1,6,9,13] [H.next] 14 cnt (fun j E H'=>∃ v es Lj,H'.get (H.next+2)=some (.cells [.int .i64 6,.str ((yF f).getD (m.tmod (yF f).length).toNat []),.str (fgG m),.int .i64 0,.int .i64 0,.int .i64 0,.str [],.int .i64 0,.nilS,.int .i64 0,.int .i64 0,.str [],.int .i64 0,.nilS,v,.nilS,.nilS] 0 true)∧yw (fun q=>H.next+3≤q) 4 H' 5 v (es.map Ex.cells)∧zcr lo H' r Lj c∧(∀ q,q < H.next→q≠r→H'.get q=H.get q)∧es.length=j∧Lj.length≤L1.length∧jK f cnt L1=(es++(jK f (cnt - j) Lj).1,(jK f (cnt - j) Lj).2)) eE ⟨.nilS,[],L1,ga,.inl ⟨rfl,rfl⟩,hra,oa,rfl,Nat.le_refl _,by simp⟩ ?_
 clear ga hra oa g2 hr2 o2'
 rintro j E3 H3 hj hcE hrH hnH hsI ⟨v,es,Lj,g3,hrow,hr3,o3,hel,hLj,hJ⟩
 (try simp only[zk,zl,and_true,sB,sO,Nat.reduceBEq,Nat.reduceAdd,Nat.reduceLeDiff,tyF,gz, *]at hcE)
 (try simp only[zk,zl,and_true,sB,sO,Nat.reduceBEq,Nat.reduceAdd,Nat.reduceLeDiff,tyF,gz, *]at hrH)
 (try simp only[zb,ze,zM,Nat.zero_add,Nat.reduceAdd]at hnH)
 have hB0:(H.next == H3.next)=false:=zF (by omega)
 have hC0:(H3.next == H.next)=false:=zF (by omega)
 have hle:H.next+3≤H3.next:=by omega
 have e02:(H.next == H.next+2)=false:=zF (by omega)
 have e20:(H.next+2 == H.next)=false:=zF (by omega)
 obtain⟨v1,v2⟩:=hrow.one
 repeat' (first
  | (apply Rx.nl ?_;clear hK K)|apply Rx.o ?_|apply Rx.on ?_|(apply Rx.cd (fun hb hbp=>?_) (fun hb hbp=>?_)<;>try (cases hb;done))|apply Wp.seq ?_|(apply zd fun K hK=>?_)|(apply zf 8 [(3,9),(3,11),(6,9),(6,11)] fun K hK=>?_)|(apply zf 10 [(0,7),(0,10),(0,12),(4,7),(4,10),(4,12)] fun K hK=>?_)|(apply zf 24 [(3,14),(6,14),(7,14),(11,14),(13,14)] fun K hK=>?_)|(apply zf 28 [(1,4),(1,6),(5,6)] fun K hK=>?_)|(apply zr ?_;try intro _)|(apply zt ?_ ?_<;>clear hK K)|apply WpT.step ?_|apply zm rfl ?_|apply Wp.block ?_|apply zh ?_|apply Rx.rt ?_|apply zj ?_)
 ·have hlt:j < cnt:=by omega
  refine WpL.call rfl eVk eAk ?_;simp only[List.cons_append,List.nil_append,List.append_nil]
  refine zu.mono ?_ (jr hG 3 f 2 (by omega) (by omega) lo H3 r Lj c hr3 (by omega))
  rintro v' H4 ⟨⟨cs,rfl,hc1,hc2,hc3⟩,hr4,n4,o4⟩
  have hl4:=zL f 3 2 Lj
  have g4:H4.get (H.next+2)=some (.cells [.int .i64 6,.str ((yF f).getD (m.tmod (yF f).length).toNat []),.str (fgG m),.int .i64 0,.int .i64 0,.int .i64 0,.str [],.int .i64 0,.nilS,.int .i64 0,.int .i64 0,.str [],.int .i64 0,.nilS,v,.nilS,.nilS] 0 true):=by rw[o4 _ (by omega) (by omega)];exact g3
  have g40:H4.get H.next=some (.cells [.int .i64 0,.str [],.str [],.int .i64 0,.int .i64 0,.int .i64 0,.str [],.int .i64 0,.nilS,.int .i64 0,.int .i64 0,.str [],.int .i64 0,.nilS,.nilS,.nilS,.nilS] 0 true):=by rw[o4 _ (by omega) (by omega)];exact hrH
  have kb:=fun H=>bsK1 H hc1 hc2
  have hvq:∀ q o m z',v=.sl q o m z'→H.next+3≤q∧q < H3.next:=fun q o m z' e=>by
   rcases hrow with ⟨rfl,_⟩|⟨q',imm,rows,rfl,e1,e2,_⟩
   ·cases e
   ·simp only[AV.sl.injEq]at e
    rw[← e.1];exact⟨e1,e2⟩
  have ob:∀ q,q < H4.next→(H4.alloc (.cells cs 0 true)).get q=H4.get q:=fun q hq=>by rw[za,if_neg (by omega)]
  have hrow4:yw (fun q=>H.next+3≤q) 4 (H4.alloc (.cells cs 0 true)) 5 v (es.map Ex.cells):=hrow.keep (fun q _ h=>h) (by simp only[zb];omega) fun q h1 h2=>by rw[ob _ (by omega),o4 q h2 (by omega)]
  have gcs:(H4.alloc (.cells cs 0 true)).get H4.next=some (.cells cs 0 true):=by rw[za,if_pos rfl]
  have g4b:(H4.alloc (.cells cs 0 true)).get (H.next+2)=some (.cells [.int .i64 6,.str ((yF f).getD (m.tmod (yF f).length).toNat []),.str (fgG m),.int .i64 0,.int .i64 0,.int .i64 0,.str [],.int .i64 0,.nilS,.int .i64 0,.int .i64 0,.str [],.int .i64 0,.nilS,v,.nilS,.nilS] 0 true):=by rw[ob _ (by omega)];exact g4
  obtain⟨v5,H5,a5,s5,n5,f5,q5⟩:=yw.push (P:=Try.prog) (t:=49) Try.underlying49 sz51 bt51 zr51 rfl (by kernel_rfl) hrow4 (by simp only[zb];omega) (r:=H4.next) (imm:=0) (row:=cs) (w:=(zG f 3 2 Lj).1.cells) gcs hc1 hc2 (hc3.keep2 (fun q h1 h2=>⟨by omega,fun o m z' e=>by have:=(hvq q o m z' e).2;omega⟩) (Nat.le_succ _) fun q h1 h2=>ob q h2) (by simp only[List.length_map,zU];omega) (by simp only[List.length_map,zU];omega)
  simp only[zb]at n5 f5
  have o5:∀ q,q < H4.next→q < H.next+3→H5.get q=H4.get q:=fun q h1 h2=>by rw[f5 q (by omega) (fun o m z' e=>by have:=(hvq q o m z' e).1;omega),ob q h1]
  have g5:H5.get (H.next+2)=some (.cells [.int .i64 6,.str ((yF f).getD (m.tmod (yF f).length).toNat []),.str (fgG m),.int .i64 0,.int .i64 0,.int .i64 0,.str [],.int .i64 0,.nilS,.int .i64 0,.int .i64 0,.str [],.int .i64 0,.nilS,v,.nilS,.nilS] 0 true):=by rw[o5 _ (by omega) (by omega)];exact g4
  have n5':H4.next+2≤H5.next:=by omega
  obtain⟨p1,p2⟩:=s5.one
  clear f5 q5 hrow hrow4 hr3
  dsimp only[zA]
  repeat' (first
   | (apply Rx.nl ?_;clear hK K)|apply Rx.o ?_|apply Rx.on ?_|(apply Rx.cd (fun hb hbp=>?_) (fun hb hbp=>?_)<;>try (cases hb;done))|apply Wp.seq ?_|(apply zd fun K hK=>?_)|(apply zf 8 [(3,9),(3,11),(6,9),(6,11)] fun K hK=>?_)|(apply zf 10 [(0,7),(0,10),(0,12),(4,7),(4,10),(4,12)] fun K hK=>?_)|(apply zf 24 [(3,14),(6,14),(7,14),(11,14),(13,14)] fun K hK=>?_)|(apply zf 28 [(1,4),(1,6),(5,6)] fun K hK=>?_)|(apply zr ?_;try intro _)|(apply zt ?_ ?_<;>clear hK K)|apply WpT.step ?_|apply zm rfl ?_|apply Wp.block ?_|apply zh ?_|apply Rx.rt ?_|apply zj ?_)
  ·exact eK
  ·have o6:∀ q,q≠H.next+2→(H5.set (H.next+2) (.cells [.int .i64 6,.str ((yF f).getD (m.tmod (yF f).length).toNat []),.str (fgG m),.int .i64 0,.int .i64 0,.int .i64 0,.str [],.int .i64 0,.nilS,.int .i64 0,.int .i64 0,.str [],.int .i64 0,.nilS,v5,.nilS,.nilS] 0 true)).get q=H5.get q:=fun q hq=>by rw[Hp.get_set,if_neg hq]
   have g60:H5.get H.next=some (.cells [.int .i64 0,.str [],.str [],.int .i64 0,.int .i64 0,.int .i64 0,.str [],.int .i64 0,.nilS,.int .i64 0,.int .i64 0,.str [],.int .i64 0,.nilS,.nilS,.nilS,.nilS] 0 true):=by rw[o5 _ (by omega) (by omega)];exact g40
   refine⟨by omega,(by simp only[zk,zl,and_true,sB,sO,Nat.reduceBEq,Nat.reduceAdd,Nat.reduceLeDiff,tyF,g60, *]),(by simp only[zk,zl,and_true,sB,sO,Nat.reduceBEq,Nat.reduceAdd,Nat.reduceLeDiff,tyF,g60, *]),eN,(by simp only[sB,Nat.reduceBEq, *];exact z7 (n:=cnt) (by omega) (by omega)),?_⟩
   refine⟨v5,es++[(zG f 3 2 Lj).1],(zG f 3 2 Lj).2,by rw[Hp.get_set,if_pos rfl],by rw[List.map_append];exact s5.keep (fun q _ h=>h) (by simp only[ze];omega) fun q h1 h2=>o6 q (by omega),hr4.keep (by simp only[ze];omega) fun q hq=>by rw[o6 q (by omega),o5 q (by omega) (by omega)],fun q h1 h2=>by rw[o6 q (by omega),o5 q (by omega) (by omega),o4 q (by omega) h2,o3 q h1 h2],by simp[hel],by omega,?_⟩
   rw[hJ,show cnt - j=(cnt - (j+1))+1 by omega,jK]
   simp
 ·have hje:j=cnt:=by omega
  subst hje
  repeat' (first
   | (apply Rx.nl ?_;clear hK K)|apply Rx.o ?_|apply Rx.on ?_|(apply Rx.cd (fun hb hbp=>?_) (fun hb hbp=>?_)<;>try (cases hb;done))|apply Wp.seq ?_|(apply zd fun K hK=>?_)|(apply zf 8 [(3,9),(3,11),(6,9),(6,11)] fun K hK=>?_)|(apply zf 10 [(0,7),(0,10),(0,12),(4,7),(4,10),(4,12)] fun K hK=>?_)|(apply zf 24 [(3,14),(6,14),(7,14),(11,14),(13,14)] fun K hK=>?_)|(apply zf 28 [(1,4),(1,6),(5,6)] fun K hK=>?_)|(apply zr ?_;try intro _)|(apply zt ?_ ?_<;>clear hK K)|apply WpT.step ?_|apply zm rfl ?_|apply Wp.block ?_|apply zh ?_|apply Rx.rt ?_|apply zj ?_)
  refine⟨eI,_,(by(try simp only[sB,sO,Nat.reduceBEq,Nat.reduceAdd,Nat.reduceLeDiff,tyF,zQ,yb,zkx, *]);first|done|with_reducible rfl),?_⟩;try simp only[zp]
  rw[if_neg (by omega),if_neg (by omega),if_neg (by omega),if_neg (by omega),if_neg (by omega),if_pos (by omega),hJ,Nat.sub_self]at hR
  subst hR
  simp only[jK,List.append_nil]
  refine zfg rfl (by simp only[List.all_cons,List.all_nil,v1,Bool.and_true];rfl) (zdz (n:=8+k) 6 _ _ 0 zl1 zl1 ((hrow.keep (fun q _ hq=>by omega) (by simp only[ze];omega) fun q h1 h2=>by rw[Hp.get_set,if_neg (by omega)]).rd.up (by omega)) .nilS .nilS) ?_ ?_ ?_
  ·exact hr3.keep (by simp only[ze];omega) fun q hq=>by rw[Hp.get_set,if_neg (by omega)]
  ·simp only[ze];omega
  ·intro q h1 h2
   rw[Hp.get_set,if_neg (by omega)]
   exact o3 q h1 h2
end Go.Proofs.Ytpbcimfiofmoeaa
namespace Go.Proofs.Ytpbcimfiofmoeaa
set_option maxRecDepth 20000
set_option maxRecDepth 20000
open Go Go.Ab
namespace tyG5
def tyF:=And.intro @tq3 (And.intro @tq9 (And.intro @zcf (And.intro @zcg (And.intro @zbb (And.intro @zbc (And.intro @zay (And.intro @zbx (And.intro @tq77 (And.intro @zS17 (@zfC))))))))))
end tyG5
open tyG5
set_option maxRecDepth 100000 in
theorem znv {lG:List En} (hG:GenL lG) {k:Nat}{f:Int}{deep:Nat} (hd:deep≤3) (hst:deep≤2→zah lG k f (deep+1)):zah lG (k+1) f deep:=by
 intro lo H r s hrd hL
 have hw:Plain (zJ pls lG) 55:=hG.plain (by rfl)
 have hnx:Plain (zJ pls lG) 27:=hG.plain (by rfl)
 have hkeep:(zJ pls lG).keep 55=false:=rfl
 have hrl:=hrd.1
 have hlo:=hrd.2.1
 have hq16:(16:Int)≠0:=by decide
 have hq2:(2:Int)≠0:=by decide
 have hlen0:((yF f).length:Int)≠0:=by rcases zbk f with h|h<;>rw[h]<;>decide
 rw[jw,zg9]
 refine zi (M:=156) (rs:=[.cell 6 55]) (hw.call _) hw.ice hw.froz Try.func55 rfl rfl zd7.2 rfl ?_;dsimp only[zd7,zH,Nat.reduceAdd]
 repeat' (first
  | (apply Rx.nl ?_;clear hK K)|apply Rx.o ?_|apply Rx.gu ?_|(apply Rx.gd (fun hg hgp=>?_) (fun hg hgp=>?_)<;>try (cases hg;done))|(apply Rx.cd (fun hb hbp=>?_) (fun hb hbp=>?_)<;>try (cases hb;done))|apply Wp.seq ?_|(apply zd fun K hK=>?_)|apply zh ?_)
 refine WpL.call rfl eVk eAk ?_;simp only[List.cons_append,List.nil_append,List.append_nil]
 refine zu.mono ?_ (zhw hnx (hrd.keep (Nat.le_succ _) fun q hq=>by rw[za,if_neg (by omega)]) hL)
 rintro v H2 ⟨rfl,hr2,n2,o2⟩
 simp only[zb]at n2
 have g2:H2.get H.next=some (.cells [.int .i64 0,.str [],.str [],.int .i64 0,.int .i64 0,.int .i64 0,.str [],.int .i64 0,.nilS,.int .i64 0,.int .i64 0,.str [],.int .i64 0,.nilS,.nilS,.nilS,.nilS] 0 true):=by rw[o2 _ (by omega),za,if_pos rfl]
 have o2':∀ q,q < H.next→q≠r→H2.get q=H.get q:=fun q h1 h2=>by rw[o2 q h2,za,if_neg (by omega)]
 have hL1:=yN s.1
 generalize (zI s.1).1=n at *
 generalize (zI s.1).2=L1 at *
 obtain⟨sL,c⟩:=s
 simp only[]at *
 have hq:=yB (n:=n) (m:=16) (by omega) (by omega)
 have hm:=yB (n:=w64 (n.tdiv 16)) (m:=1000) (by omega) (by omega)
 obtain⟨hi0,hix⟩:=zai (yF f) hlen0 hm.1 []
 have hxs:=zkw hm.1
 have hxa:=zdy hm.1
 have hxf:=zha hm.1
 clear o2
 dsimp only[zA]
 repeat' (first
  | (apply Rx.nl ?_;clear hK K)|apply Rx.o ?_|(apply Rx.call ?_;first|refine jM (zlS hG.nms _ _) ?_|refine jM (zet hG.pick _ 1000 (by decide) _) ?_)|apply Rx.gu ?_|(apply Rx.gd (fun hg hgp=>?_) (fun hg hgp=>?_)<;>try (cases hg;done))|(apply Rx.cd (fun hb hbp=>?_) (fun hb hbp=>?_)<;>try (cases hb;done))|apply Wp.seq ?_|(apply zd fun K hK=>?_)|apply zh ?_)
 refine WpL.call rfl eVk eAk ?_;simp only[List.cons_append,List.nil_append,List.append_nil]
 refine zu.mono ?_ (zet hG.pick n 16 (by decide) _)
 rintro _ _ ⟨rfl,rfl⟩
 dsimp only[zA]
 refine Rx.o ?_
 refine WpL.nil (hK _ _ ?_)
 clear hK K
 dsimp only[zcc,zcd]
 generalize ym n 16=q0 at *
 generalize ym (w64 (n.tdiv 16)) 1000=m at *
 obtain⟨lv,hgr,hlen⟩:=hr2.len
 rename_i H2
 simp only[zT,zR,zY,zZ,Nat.blt,Nat.ble,List.getElem?_cons_succ,List.getElem?_cons_zero,Option.bind_some]
 refine Wp.seq ?_
 refine Wp.seq ?_
 refine zd fun K hK0=>?_
 have hK:∀ E2 H3,(E2.at 0=.ptr r 0∧E2.at 1=.int .i64 f∧E2.at 2=.int .i64 deep∧E2.at 6=.ptr H.next 0∧E2.at 8=jg (yF f)∧E2.at 9=.int .i64 m∧E2.at 10=.int .i64 q0∧(∃ b,E2.at 44=.bool b∧(b=true↔(((2:Int) < deep∧8≤q0∧q0 < 12)∨(10≤c∧10≤q0))))∧H3=H2)→K E2 H3:=by
  rintro E2 H3 ⟨k0,k1,k2,k6,k8,k9,k10,⟨b,k44,hb⟩,rfl⟩
  apply hK0
  clear hK0 K
  dsimp only[zcc,zcd]
  have hqe:ziK deep c q0=if ((2:Int) < deep∧8≤q0∧q0 < 12)∨(10≤c∧10≤q0)then 0 else q0:=rfl
  generalize ziK deep c q0=q at *
  have hqr:0≤q∧q < 16:=by rw[hqe];split<;>omega
  have hqd:8≤q→q < 12→deep≤2:=by rw[hqe];split<;>omega
  refine zvH (fun E' H'=>E'.at 0=.ptr r 0∧E'.at 1=.int .i64 f∧E'.at 2=.int .i64 deep∧E'.at 6=.ptr H.next 0∧E'.at 8=jg (yF f)∧E'.at 9=.int .i64 m∧E'.at 10=.int .i64 q∧H'=H3) ?_ ?_
  ·cases b with
   | true=>
     rw[if_pos (hb.1 rfl)]at hqe
     repeat' (first
      | (apply Rx.nl ?_;clear hK K)|apply Rx.o ?_|apply Rx.gu ?_|(apply Rx.gd (fun hg hgp=>?_) (fun hg hgp=>?_)<;>try (cases hg;done))|(apply Rx.cd (fun hb hbp=>?_) (fun hb hbp=>?_)<;>try (cases hb;done))|apply Wp.seq ?_|(apply zd fun K hK=>?_)|apply zh ?_)
     exact⟨rfl,eE,eE,eE,eE,eE,eE,(by first|(simp only[sB,Nat.reduceBEq,hqe, *];done)|rfl),rfl⟩
   | false=>
     rw[if_neg (fun h=>by have:=hb.2 h;cases this)]at hqe
     repeat' (first
      | (apply Rx.nl ?_;clear hK K)|apply Rx.o ?_|apply Rx.gu ?_|(apply Rx.gd (fun hg hgp=>?_) (fun hg hgp=>?_)<;>try (cases hg;done))|(apply Rx.cd (fun hb hbp=>?_) (fun hb hbp=>?_)<;>try (cases hb;done))|apply Wp.seq ?_|(apply zd fun K hK=>?_)|apply zh ?_)
     exact⟨rfl,eE,eE,eE,eE,eE,eE,(by first|(simp only[sB,Nat.reduceBEq,hqe, *];done)|rfl),rfl⟩
  clear k0 k1 k2 k6 k8 k9 k10 k44 hb hqe hq
  rintro E3 H' ⟨k0,k1,k2,k6,k8,k9,k10,rfl⟩
  have hat:AtT f deep lo H H' r L1 c q m E3:=⟨hd,hrl,hlo,n2,g2,o2',hr2,by omega,hm,hqd,k0,k1,k2,k6,k8,k9,k10⟩
  by_cases c1:q < 6
  ·exact zl6 hG hst hat c1
  by_cases c2:q < 8
  ·exact znt hG hst hat c1 c2
  by_cases c3:q < 10
  ·exact zvR hG hst hat c1 c2 c3
  by_cases c4:q < 12
  ·exact znu hG hst hat c1 c2 c3 c4
  by_cases c5:q < 14
  ·exact zrP hG hst hat c1 c2 c3 c4 c5
  by_cases c6:q < 15
  ·exact zpB hG hst hat c1 c2 c3 c4 c5 c6
  exact zpA hG hst hat c1 c2 c3 c4 c5 c6
 clear hK0
 repeat' (first
  | (apply Rx.nl ?_;clear hK K)|apply Rx.o ?_|apply Rx.gu ?_|(apply Rx.gd (fun hg hgp=>?_) (fun hg hgp=>?_)<;>try (cases hg;done))|apply Wp.seq ?_|(apply zd fun K hK=>?_)|apply zh ?_)
 all_goals
  refine⟨eE,eE,eE,eE,eE,eE,eE,⟨_,eE,?_⟩,rfl⟩
  first
  | exact⟨fun _=>by omega,fun _=>rfl⟩
  | exact⟨fun h=>(by cases h),fun h=>(by omega:False).elim⟩
  | exact⟨fun h=>by(have h:=of_decide_eq_true h;omega),fun h=>decide_eq_true (by omega)⟩
theorem zl7 {lG:List En} (hG:GenL lG) (f:Int):∀ (k deep:Nat),4≤deep+k→deep≤3→zah lG k f deep
 | 0,deep,h1,h2=>by omega
 | k+1,deep,h1,h2=>znv hG h2 fun h=>zl7 hG f k (deep+1) (by omega) (by omega)
end Go.Proofs.Ytpbcimfiofmoeaa
namespace Go.Proofs.Ytpbcimfiofmoeaa
set_option maxRecDepth 20000
set_option maxRecDepth 20000
open Go Go.Ab
namespace tyG6
def tyF:=And.intro @tq2 (And.intro @tq3 (And.intro @tq9 (And.intro @zcf (And.intro @zfG (And.intro @zgk (And.intro @zcp (And.intro @zcg (And.intro @zbb (And.intro @zbc (And.intro @zay (And.intro @zfH (And.intro @zbx (And.intro @zj7 (And.intro @tq77 (And.intro @zfC (And.intro @nms2 (And.intro @Nat.zero_mul (@Nat.one_mul))))))))))))))))))
end tyG6
open tyG6
noncomputable def code14:{ c:SC // slim 61 (Try.f14.body.getD .skip)=c }:=by
 refine⟨?_,?_⟩
 rotate_left
 ·simp only[Try.f14,Option.getD_some,slim,zT,zR,zY,zZ,Nat.blt,Nat.ble]
  rfl
def StAll (lG:List En):Prop:=∀ (f:Int) (k deep:Nat),4≤deep+k→deep≤3→zah lG k f deep
theorem stAll {lG:List En} (hG:GenL lG):StAll lG:=zl7 hG
def yx (L:List Int):List St×Sd:=zae 0 4 0 5 ((zI L).2,0)
def jI (L:List Int):Ex×List Int:=zG 0 4 1 (yx L).2.1
def jx (L:List Int):List St×Sd:=zae 1 3 1 3 ((jI L).2,(yx L).2.2)
def zdE (L:List Int):Ex×List Int:=zG 1 4 1 (jx L).2.1
def jP (L:List Int):Fu:=⟨[102],[[120],[121]],[[105],[106]],(yx L).1,(jI L).1⟩
def z8 (L:List Int):Fu:=⟨[103],[[110]],[[105]],(jx L).1,(zdE L).1⟩
def za9 (L:List Int):List Ar:=[⟨[97],1+ym (zI L).1 4⟩,⟨[98],1+ym (w64 ((zI L).1.tdiv 4)) 4⟩]
def yG (l:List Int):Pr:=⟨za9 (l.take 60),[jP (l.take 60),z8 (l.take 60)]⟩
structure ProgM (lo n:Nat) (H:Hp) (p:Pr) (ra rf:Nat) (x y:Int) (f g:Fu) (cf cg:List AV):Prop where
 ep:p=⟨[⟨[97],x⟩,⟨[98],y⟩],[f,g]⟩
 ga:H.get ra=some (.cells [.str [97],.int .i64 x,.str [98],.int .i64 y] 0 true)
 gf:H.get rf=some (.cells (cf++cg) 0 true)
 la:lo≤ra∧ra < H.next
 lf:lo≤rf∧rf < H.next
 ne:ra≠rf
 lcf:cf.length=9
 lcg:cg.length=9
 wf:yc (fun q=>lo≤q∧q≠ra∧q≠rf) n H cf f.cells
 wg:yc (fun q=>lo≤q∧q≠ra∧q≠rf) n H cg g.cells
theorem ProgM.cells {lo n:Nat}{H:Hp}{p:Pr}{ra rf:Nat}{x y:Int}{f g:Fu}{cf cg:List AV} (h:ProgM lo (n+1) H p ra rf x y f g cf cg):yc (fun q=>lo≤q) (n+2) H [.sl ra 0 2 2,.sl rf 0 2 9] p.cells:=by
 rw[h.ep]
 refine .cons ?_ (.cons ?_ .nil)
 ·refine RdW.rows (n:=n+1) (a:=[[.str [97],.int .i64 x],[.str [98],.int .i64 y]]) (imm:=0) (tip:=true) h.la.1 h.la.2 h.ga (by simp) ⟨⟨rfl,.cons (.str _) (.cons (.int _ _) .nil)⟩,⟨rfl,.cons (.str _) (.cons (.int _ _) .nil)⟩,trivial⟩
 ·refine RdW.rows (n:=n+1) (a:=[cf,cg]) (imm:=0) (tip:=true) h.lf.1 h.lf.2 (by rw[h.gf];simp) (by simp) ⟨⟨h.lcf,h.wf.keep (fun q hq=>hq.1) (Nat.le_refl _) fun _ _ _=>rfl⟩,⟨h.lcg,h.wg.keep (fun q hq=>hq.1) (Nat.le_refl _) fun _ _ _=>rfl⟩,trivial⟩
theorem zhA {S:Nat→Prop}{n:Nat}{H:Hp} (nm:List UInt8) {p l b:AV}{v:List AV}{f:Fu} (hn:f.name=nm) (h1:RdW S (n+1) H p (jg f.params)) (h2:RdW S (n+1) H l (jg f.locals)) (h3:RdW S (n+1) H b (.lst (f.body.map St.cells))) (h4:yc S (n+1) H v f.value.cells):yc S (n+1) H ([.str nm,p,l,b]++v) f.cells:=by
 have e:f.cells=[.str f.name,jg f.params,jg f.locals,.lst (f.body.map St.cells)]++f.value.cells:=by rw[Ex.cells_eq];rfl
 rw[e,hn]
 exact(yc.cons (.str _) (.cons h1 (.cons h2 (.cons h3 .nil)))).append h4
theorem zhB {S:Nat→Prop}{n:Nat}{H:Hp}{r imm:Nat}{tip:Bool} (l:List (List UInt8)) (hS:S r) (hr:r < H.next) (hg:H.get r=some (.cells (l.map .str) imm tip)) (hi:imm≤l.length):RdW S (n+2) H (.sl r 0 l.length 1) (jg l):=by
 have:=RdW.rows (n:=n+1) (a:=l.map fun s=>[AV.str s]) (z:=1) hS hr (by rw[zgq];exact hg) (by rw[zgq];simpa using hi) (za7.strs l)
 rw[List.length_map]at this
 exact this
theorem bsI0 (H:Hp):zB Try.prog H 23 0 []=some (.sl H.next 0 0 1,H.alloc (.cells [] 0 true)):=by kernel_rfl
theorem bldRd (v:Nat) (n:Nat):yf Try.prog 77 [(0,.sl v 0 n 1)]=some (.agg [.sl v 0 n 1,.int .i64 0]):=by kernel_rfl
theorem bldAr (s:List UInt8) (n:Int):yf Try.prog 74 [(0,.str s),(1,.int .i64 n)]=some (.agg [.str s,.int .i64 n]):=by kernel_rfl
theorem bsA2 (H:Hp) (a b:List UInt8) (x y:Int):zB Try.prog H 32 2 [(0,.agg [.str a,.int .i64 x]),(1,.agg [.str b,.int .i64 y])]=some (.sl H.next 0 2 2,H.alloc (.cells [.str a,.int .i64 x,.str b,.int .i64 y] 0 true)):=by kernel_rfl
theorem bldP0 (r n:Nat):yf Try.prog 42 [(0,.sl r 0 n 2)]=some (.agg [.sl r 0 n 2,.nilS]):=by kernel_rfl
theorem bldFu (s:List UInt8) (r n q m:Nat):yf Try.prog 53 [(0,.str s),(1,.sl r 0 n 1),(2,.sl q 0 m 1)]=some (.agg [.str s,.sl r 0 n 1,.sl q 0 m 1,.nilS,.int .i64 0,.int .i64 0,.str [],.int .i64 0,.nilS]):=by kernel_rfl
theorem bsF2 (H:Hp) (a0 a1 a2 a3 a4 a5 a6 a7 a8 b0 b1 b2 b3 b4 b5 b6 b7 b8:AV):zB Try.prog H 40 2 [(0,.agg [a0,a1,a2,a3,a4,a5,a6,a7,a8]),(1,.agg [b0,b1,b2,b3,b4,b5,b6,b7,b8])]=some (.sl H.next 0 2 9,H.alloc (.cells [a0,a1,a2,a3,a4,a5,a6,a7,a8,b0,b1,b2,b3,b4,b5,b6,b7,b8] 0 true)):=by kernel_rfl
theorem bsS1' (H:Hp) (s:List UInt8):zB Try.prog H 47 1 [(0,.str s)]=some (.sl H.next 0 1 1,H.alloc (.cells [.str s] 0 true)):=by kernel_rfl
theorem zrQ (a b:AV):yV 2 [a,b]=some (.agg [a,b]):=rfl
theorem zrR (l:List Int):(l.map fun n=>[AV.int .i64 n]).flatten=l.map fun n=>AV.int .i64 n:=by
 induction l with
 | nil=>rfl
 | cons a l ih=>simp only[List.map_cons,List.flatten_cons,ih];rfl
theorem zpC {H:Hp}{q:Nat} (l:List Int) (hg:H.get q=some (.cells [] 0 true)) (hq:q < H.next) (hl:l.length≤60) :
 ∃ v H',zV Try.prog false H 23 23 (.sl q 0 0 1) (.lst (l.map fun n=>[AV.int .i64 n]))=some (v,H')∧(∃ b imm,v=.sl b 0 l.length 1∧H'.get b=some (.cells (l.map fun n=>.int .i64 n) imm true)∧b < H'.next∧(b=q∨b=H.next))∧H.next≤H'.next∧∀ k,k < H.next→k≠q→H'.get k=H.get k:=by
 have hmr:zU=70368744177664:=rfl
 have hfl:(l.map fun n=>[AV.int .i64 n]).flatten=l.map fun n=>AV.int .i64 n:=zrR l
 have hx:yg H 1 (.lst (l.map fun n=>[AV.int .i64 n]))=some (l.length,l.map fun n=>AV.int .i64 n):=by
  have e:yg H 1 (.lst (l.map fun n=>[AV.int .i64 n]))=if ((l.map fun n=>[AV.int .i64 n]).all fun row=>row.length == 1)then some ((l.map fun n=>[AV.int .i64 n]).length,(l.map fun n=>[AV.int .i64 n]).flatten)else none:=rfl
  rw[e,if_pos (by simp),hfl,List.length_map]
 have hone:(l.map fun n=>AV.int .i64 n).all AV.one=true:=by simp[AV.one]
 cases l with
 | nil=> 
   refine⟨.sl q 0 0 1,H,?_,⟨q,0,rfl,hg,hq,.inl rfl⟩,Nat.le_refl _,fun _ _ _=>rfl⟩
   ·simp only[zV,Try.underlying23,sz3,bt3,zr3,show jj Try.prog 23=true by kernel_rfl,hx,List.length_nil]
 | cons a l=>
   simp only[List.length_cons]at hx hl
   have htr:zaf false H 1 (.sl q 0 0 1)=H:=by
    unfold zaf
    simp only[hg]
    rfl
   refine⟨.sl H.next 0 (0+(l.length+1)) 1,(H.kill q).alloc (.cells ([]++(a::l).map fun n=>.int .i64 n) (0 - 0) true),?_,⟨H.next,0,by simp,?_,Nat.lt_succ_self _,.inr rfl⟩,Nat.le_succ _,fun k hk hno=>?_⟩
   ·simp only[zV,Try.underlying23,sz3,bt3,zr3,show jj Try.prog 23=true by kernel_rfl,hx,hone,htr,and_self,if_true,List.length_cons,List.length_nil,yY,hg,Nat.zero_add,Nat.mul_one,List.drop_nil,Bool.false_eq_true,if_false]
    rw[if_pos ⟨by rw[hmr];omega,by rw[hmr];omega,by simp⟩]
   ·show((H.kill q).alloc _).get (H.kill q).next=_
    rw[za,if_pos rfl];simp
   ·rw[za,if_neg (by simp only[z6];omega),zS,if_neg hno]
theorem zl8 (l:List Int):jY Try.prog 23 (.lst (l.map fun n=>[AV.int .i64 n])) none (some (.int .i64 (min (l.length:Int) 60)))=some (.lst ((l.take 60).map fun n=>[AV.int .i64 n])):=by
 have e:min (l.length:Int) 60=((min l.length 60:Nat):Int):=by omega
 rw[e]
 simp only[jY,Try.underlying23,sz3]
 show(if 0≤min l.length 60∧min l.length 60≤(l.map fun n=>[AV.int .i64 n]).length then _ else none)=_
 rw[if_pos ⟨Nat.zero_le _,by simp;omega⟩]
 have e2:((l.map fun n=>[AV.int .i64 n]).drop 0).take (min l.length 60 - 0)=(l.take 60).map fun n=>[AV.int .i64 n]:=by
  rw[List.drop_zero,Nat.sub_zero,← List.map_take,List.take_eq_take_iff.2]
  omega
 rw[e2]
 cases l.take 60 with
 | nil=>rfl
 | cons a l=>rfl
structure AtP (n0 M:Nat) (x y:Int) (H:Hp):Prop where
 lt:n0 < M∧M+8≤H.next
 rs:H.get n0=some (.cells [.nilS,.nilS] 0 true)
 ra:H.get (M+1)=some (.cells [.str [97],.int .i64 x,.str [98],.int .i64 y] 0 true)
 t5:H.get (M+2)=some (.cells [.sl (M+1) 0 2 2,.sl (M+7) 0 2 9] 0 true)
 p1:H.get (M+3)=some (.cells [.str [120],.str [121]] 0 true)
 l1:H.get (M+4)=some (.cells [.str [105],.str [106]] 0 true)
 p2:H.get (M+5)=some (.cells [.str [110]] 0 true)
 l2:H.get (M+6)=some (.cells [.str [105]] 0 true)
theorem AtP.keep {n0 M:Nat}{x y:Int}{H H':Hp} (h:AtP n0 M x y H) (hn:H.next≤H'.next) (hg:∀ q,(q=n0∨M+1≤q∧q < M+7)→H'.get q=H.get q):AtP n0 M x y H':=by
 obtain⟨⟨lt1,lt2⟩,rs,ra,t5,p1,l1,p2,l2⟩:=h
 exact⟨⟨lt1,by omega⟩,by rw[hg _ (.inl rfl)];exact rs,by rw[hg _ (by omega)];exact ra,by rw[hg _ (by omega)];exact t5,by rw[hg _ (by omega)];exact p1,by rw[hg _ (by omega)];exact l1,by rw[hg _ (by omega)];exact p2,by rw[hg _ (by omega)];exact l2⟩
set_option maxRecDepth 100000 in
theorem znw {lG:List En} (hG:GenL lG) (hst:StAll lG) (l:List Int) (hl:l.length < 2 ^ 63) (H:Hp) :
 zu Try.prog (zJ pls lG) 14 [.lst (l.map fun n=>[AV.int .i64 n])] H fun v H'=>∃ ra rf x y cf cg,v=.agg [.sl ra 0 2 2,.sl rf 0 2 9]∧ProgM H.next 14 H' (yG l) ra rf x y (jP (l.take 60)) (z8 (l.take 60)) cf cg∧H.next≤H'.next∧(∀ q,q < H.next→H'.get q=H.get q)∧H.next < ra∧∃ pt pf lf bf vf pg lg bg vg,cf=fnC [102] pf lf bf vf∧cg=fnC [103] pg lg bg vg∧ProgL pt 14 H' ra rf x y (jP (l.take 60)) (z8 (l.take 60)) pf lf bf vf pg lg bg vg∧za9 (l.take 60)=[⟨[97],x⟩,⟨[98],y⟩]∧∀ q,q < H.next→pt q=0:=by
 have hw:Plain (zJ pls lG) 14:=hG.plain (by rfl)
 have hkeep:(zJ pls lG).keep 14=false:=rfl
 have hnx:Plain (zJ pls lG) 27:=hG.plain (by rfl)
 have hs:=zl8 l
 have hL60:(l.take 60).length≤60:=by rw[List.length_take];omega
 have hq4:(4:Int)≠0:=by decide
 have hgP:yG l=⟨za9 (l.take 60),[jP (l.take 60),z8 (l.take 60)]⟩:=rfl
 generalize yG l=P0 at *
 refine zi (M:=61) (rs:=[.cell 2 42]) (hw.call _) hw.ice hw.froz Try.func14 rfl rfl code14.2 rfl ?_;dsimp only[code14,zH,Nat.reduceAdd]
 have gh0:=@bsI0
 repeat' (first
  | (apply Rx.nl ?_;clear hK K)|apply Rx.o ?_|apply Rx.on ?_|apply Wp.seq ?_|(apply zd fun K hK=>?_)|(apply zf 5 [(1,3),(1,6)] fun K hK=>?_)|(apply zf 6 [(1,3),(1,6)] fun K hK=>?_)|(apply zf 7 [(1,3),(1,6)] fun K hK=>?_)|(apply zf 8 [(1,3),(1,6)] fun K hK=>?_)|(apply zr ?_;try intro _)|(apply zt ?_ ?_<;>clear hK K)|apply WpT.step ?_|apply zm rfl ?_|apply Rx.rt ?_)
 generalize l.take 60=L at *
 have gq:((H.alloc (.cells [.nilS,.nilS] 0 true)).alloc (.cells [] 0 true)).get (H.next+1)=some (.cells [] 0 true):=by rw[za,if_pos (by rfl)]
 obtain⟨v,H2,a2,⟨b,imm,rfl,gb,hb,hb2⟩,n2,o2⟩:=zpC L gq (Nat.lt_succ_self _) hL60
 simp only[zb]at n2 o2 hb2
 refine WpL.append eV eV (by rw[hkeep];exact a2) ?_
 have gh0:=@bldRd
 repeat' (first
  | (apply Rx.nl ?_;clear hK K)|apply Rx.o ?_|apply Rx.on ?_|apply Wp.seq ?_|(apply zd fun K hK=>?_)|(apply zf 5 [(1,3),(1,6)] fun K hK=>?_)|(apply zf 6 [(1,3),(1,6)] fun K hK=>?_)|(apply zf 7 [(1,3),(1,6)] fun K hK=>?_)|(apply zf 8 [(1,3),(1,6)] fun K hK=>?_)|(apply zr ?_;try intro _)|(apply zt ?_ ?_<;>clear hK K)|apply WpT.step ?_|apply zm rfl ?_|apply Rx.rt ?_)
 have hrd3:zcr (H2.next+1) (H2.alloc (.cells [.sl b 0 L.length 1,.int .i64 0] 0 true)) H2.next L 0:=⟨Nat.lt_succ_self _,Nat.le_refl _,_,by rw[za,if_pos rfl],.inr ⟨b,0,_,imm,rfl,by rw[za,if_neg (by omega)];exact gb,rfl,by omega,by omega⟩⟩
 have g3:(H2.alloc (.cells [.sl b 0 L.length 1,.int .i64 0] 0 true)).get H.next=some (.cells [.nilS,.nilS] 0 true):=by rw[za,if_neg (by omega),o2 _ (by omega) (by omega),za,if_neg (by simp only[zb];omega),za,if_pos rfl]
 have o3:∀ q,q < H.next→(H2.alloc (.cells [.sl b 0 L.length 1,.int .i64 0] 0 true)).get q=H.get q:=fun q hq=>by rw[za,if_neg (by omega),o2 _ (by omega) (by omega),za,if_neg (by simp only[zb];omega),za,if_neg (by omega)]
 generalize hH3:H2.alloc (.cells [.sl b 0 L.length 1,.int .i64 0] 0 true)=H3 at *
 have n3:H3.next=H2.next+1:=by rw[← hH3];rfl
 clear hH3 gb hb hb2 a2 gq o2
 refine WpL.call rfl eVk eAk ?_;simp only[List.cons_append,List.nil_append,List.append_nil]
 refine zu.mono ?_ (zhw hnx hrd3 (by omega))
 rintro v H4 ⟨rfl,hr4,n4,o4⟩
 have g4:H4.get H.next=some (.cells [.nilS,.nilS] 0 true):=by rw[o4 _ (by omega)];exact g3
 have o4':∀ q,q < H.next→H4.get q=H.get q:=fun q hq=>by rw[o4 _ (by omega)];exact o3 q hq
 clear o4 o3 g3 hrd3
 have hL1:=yN L
 have hA:za9 L=[⟨[97],1+ym (zI L).1 4⟩,⟨[98],1+ym (w64 ((zI L).1.tdiv 4)) 4⟩]:=rfl
 have hp1:=yB (n:=(zI L).1) (m:=4) (by omega) (by omega)
 have hp2:=yB (n:=w64 ((zI L).1.tdiv 4)) (m:=4) (by omega) (by omega)
 have hB1:yx L=zae 0 4 0 5 ((zI L).2,0):=rfl
 have hV1:jI L=zG 0 4 1 (yx L).2.1:=rfl
 have hB2:jx L=zae 1 3 1 3 ((jI L).2,(yx L).2.2):=rfl
 have hV2:zdE L=zG 1 4 1 (jx L).2.1:=rfl
 have hF1:jP L=⟨[102],[[120],[121]],[[105],[106]],(yx L).1,(jI L).1⟩:=rfl
 have hF2:z8 L=⟨[103],[[110]],[[105]],(jx L).1,(zdE L).1⟩:=rfl
 have hl1:(yx L).2.1.length≤(zI L).2.length:=by rw[hB1];exact Nat.le_trans (zd8 (zc5 0 4 0) _ _) (yN _)
 have hl2:(jI L).2.length≤(yx L).2.1.length:=zL 0 4 1 _
 have hl3:(jx L).2.1.length≤(jI L).2.length:=by rw[hB2];exact Nat.le_trans (zd8 (zc5 1 3 1) _ _) (yN _)
 generalize yx L=B1 at *
 generalize jI L=V1 at *
 generalize jx L=B2 at *
 generalize zdE L=V2 at *
 generalize jP L=Ff at *
 generalize z8 L=Fg at *
 generalize za9 L=Aa at *
 generalize (zI L).1=n at *
 generalize (zI L).2=L1 at *
 have hw1:IntKind.wrap .i64 (1+ym n 4)=1+ym n 4:=zav (by omega) (by omega)
 have hw2:IntKind.wrap .i64 (1+ym (w64 (n.tdiv 4)) 4)=1+ym (w64 (n.tdiv 4)) 4:=zav (by omega) (by omega)
 have hw3:IntKind.wrap .i64 (n.tdiv 4)=w64 (n.tdiv 4):=rfl
 dsimp only[zA]
 have gh0:=@bldAr
 have gh1:=@bsA2
 have gh2:=@bldP0
 have gh3:=@bsS1'
 have gh4:=@bldFu
 have gh5:=@bsF2
 repeat' (first
  | (apply Rx.nl ?_;clear hK K)|apply Rx.o ?_|apply Rx.on ?_|(apply Rx.call ?_;first|refine jM (zet hG.pick _ _ (by decide) _) ?_)|apply Wp.seq ?_|(apply zd fun K hK=>?_)|(apply zf 5 [(1,3),(1,6)] fun K hK=>?_)|(apply zf 6 [(1,3),(1,6)] fun K hK=>?_)|(apply zf 7 [(1,3),(1,6)] fun K hK=>?_)|(apply zf 8 [(1,3),(1,6)] fun K hK=>?_)|(apply zr ?_;try intro _)|(apply zt ?_ ?_<;>clear hK K)|apply WpT.step ?_|apply zm rfl ?_|apply Rx.rt ?_)
 generalize hx:1+ym n 4=x at *
 generalize hy:1+ym (w64 (n.tdiv 4)) 4=y at *
 rename_i H4
 have hne:∀ i,(H.next == H2.next+i)=false:=fun i=>zF (by omega)
 have hmn:H.next < H2.next:=by omega
 generalize hHs:Hp.set (Hp.alloc _ _) _ _=Hs
 have hat:AtP H.next H2.next x y Hs:=by
  rw[← hHs]
  refine⟨⟨hmn,by simp only[ze,zb];omega⟩,?_,?_,?_,?_,?_,?_,?_⟩
  ·repeat (first|rw[Hp.get_set,if_neg (by(try simp only[zb,ze]);omega)]|rw[za,if_neg (by(try simp only[zb,ze]);omega)])
   exact g4
  ·(repeat (first|rw[Hp.get_set,if_neg (by(try simp only[zb,ze]);omega)]|rw[za,if_neg (by(try simp only[zb,ze]);omega)]));(first|rw[Hp.get_set,if_pos (by first|rfl|((try simp only[zb,ze]);omega))]|rw[za,if_pos (by first|rfl|((try simp only[zb,ze]);omega))])
  ·(repeat (first|rw[Hp.get_set,if_neg (by(try simp only[zb,ze]);omega)]|rw[za,if_neg (by(try simp only[zb,ze]);omega)]));(first|rw[Hp.get_set,if_pos (by first|rfl|((try simp only[zb,ze]);omega))]|rw[za,if_pos (by first|rfl|((try simp only[zb,ze]);omega))])
  ·(repeat (first|rw[Hp.get_set,if_neg (by(try simp only[zb,ze]);omega)]|rw[za,if_neg (by(try simp only[zb,ze]);omega)]));(first|rw[Hp.get_set,if_pos (by first|rfl|((try simp only[zb,ze]);omega))]|rw[za,if_pos (by first|rfl|((try simp only[zb,ze]);omega))])
  ·(repeat (first|rw[Hp.get_set,if_neg (by(try simp only[zb,ze]);omega)]|rw[za,if_neg (by(try simp only[zb,ze]);omega)]));(first|rw[Hp.get_set,if_pos (by first|rfl|((try simp only[zb,ze]);omega))]|rw[za,if_pos (by first|rfl|((try simp only[zb,ze]);omega))])
  ·(repeat (first|rw[Hp.get_set,if_neg (by(try simp only[zb,ze]);omega)]|rw[za,if_neg (by(try simp only[zb,ze]);omega)]));(first|rw[Hp.get_set,if_pos (by first|rfl|((try simp only[zb,ze]);omega))]|rw[za,if_pos (by first|rfl|((try simp only[zb,ze]);omega))])
  ·(repeat (first|rw[Hp.get_set,if_neg (by(try simp only[zb,ze]);omega)]|rw[za,if_neg (by(try simp only[zb,ze]);omega)]));(first|rw[Hp.get_set,if_pos (by first|rfl|((try simp only[zb,ze]);omega))]|rw[za,if_pos (by first|rfl|((try simp only[zb,ze]);omega))])
 have gf:Hs.get (H2.next+7)=some (.cells [.str [102],.sl (H2.next+3) 0 2 1,.sl (H2.next+4) 0 2 1,.nilS,.int .i64 0,.int .i64 0,.str [],.int .i64 0,.nilS,.str [103],.sl (H2.next+5) 0 1 1,.sl (H2.next+6) 0 1 1,.nilS,.int .i64 0,.int .i64 0,.str [],.int .i64 0,.nilS] 0 true):=by
  rw[← hHs];(repeat (first|rw[Hp.get_set,if_neg (by(try simp only[zb,ze]);omega)]|rw[za,if_neg (by(try simp only[zb,ze]);omega)]));(first|rw[Hp.get_set,if_pos (by first|rfl|((try simp only[zb,ze]);omega))]|rw[za,if_pos (by first|rfl|((try simp only[zb,ze]);omega))])
 have olds:∀ q,q < H2.next+1→Hs.get q=H4.get q:=fun q hq=>by
  rw[← hHs]
  repeat (first|rw[Hp.get_set,if_neg (by omega)]|rw[za,if_neg (by(try simp only[zb,ze]);omega)])
 have hns:Hs.next=H2.next+8:=by rw[← hHs];simp only[ze,zb];omega
 have hrs:zcr (H2.next+1) Hs H2.next L1 0:=hr4.keep (by omega) olds
 have os:∀ q,q < H.next→Hs.get q=H.get q:=fun q hq=>by rw[olds q (by omega)];exact o4' q hq
 clear olds hHs hr4 g4 o4'
 have h02:(0:Nat) < 2:=by decide
 have h12:(1:Nat) < 2:=by decide
 refine WpL.call rfl eVk eAk ?_;simp only[List.cons_append,List.nil_append,List.append_nil]
 refine zu.mono ?_ (zd9 hG (hst 0 4 0 (by omega) (by omega)) 5 (by omega) (by omega) (H2.next+1) Hs H2.next (L1,0) hrs (by simp only[];omega))
 rintro v1 H5 ⟨hrow1,hr5,n5,o5⟩
 rw[← hB1]at hrow1 hr5
 obtain⟨t1,t2⟩:=hrow1.one
 have hat5:=hat.keep n5 fun q hq=>o5 q (by omega) (by omega)
 have g5t:=hat5.t5
 have g5f:H5.get (H2.next+7)=some (.cells [.str [102],.sl (H2.next+3) 0 2 1,.sl (H2.next+4) 0 2 1,.nilS,.int .i64 0,.int .i64 0,.str [],.int .i64 0,.nilS,.str [103],.sl (H2.next+5) 0 1 1,.sl (H2.next+6) 0 1 1,.nilS,.int .i64 0,.int .i64 0,.str [],.int .i64 0,.nilS] 0 true):=by rw[o5 _ (by omega) (by omega)];exact gf
 have gst:=hat.t5
 dsimp only[zA]
 repeat' (first
  | (apply Rx.nl ?_;clear hK K)|apply Ry.o ?_|apply Ry.on ?_|apply Wp.seq ?_|(apply zd fun K hK=>?_)|(apply zf 5 [(1,3),(1,6)] fun K hK=>?_)|(apply zf 6 [(1,3),(1,6)] fun K hK=>?_)|(apply zf 7 [(1,3),(1,6)] fun K hK=>?_)|(apply zf 8 [(1,3),(1,6)] fun K hK=>?_)|(apply zr ?_;try intro _)|(apply zt ?_ ?_<;>clear hK K)|apply WpT.step ?_|apply zm rfl ?_|apply Rx.rt ?_)
 ·exact eK
 have n5':=n5
 generalize hHa:Hp.set H5 (H2.next+7) _=Ha
 have nHa:Ha.next=H5.next:=by rw[← hHa];rfl
 have oHa:∀ q,q≠H2.next+7→Ha.get q=H5.get q:=fun q hq=>by rw[← hHa,Hp.get_set,if_neg hq]
 have gfHa:Ha.get (H2.next+7)=some (.cells [.str [102],.sl (H2.next+3) 0 2 1,.sl (H2.next+4) 0 2 1,v1,.int .i64 0,.int .i64 0,.str [],.int .i64 0,.nilS,.str [103],.sl (H2.next+5) 0 1 1,.sl (H2.next+6) 0 1 1,.nilS,.int .i64 0,.int .i64 0,.str [],.int .i64 0,.nilS] 0 true):=by rw[← hHa,Hp.get_set,if_pos rfl]
 clear hHa
 have hatHa:=hat5.keep (Nat.le_of_eq nHa.symm) fun q hq=>oHa q (by omega)
 have gtHa:=hatHa.t5
 have hrHa:=hr5.keep (Nat.le_of_eq nHa.symm) fun q hq=>oHa q (by omega)
 have hMl:=hat.lt
 repeat' (first
  | (apply Rx.nl ?_;clear hK K)|apply Ry.o ?_|apply Ry.on ?_|apply Wp.seq ?_|(apply zd fun K hK=>?_)|(apply zf 5 [(1,3),(1,6)] fun K hK=>?_)|(apply zf 6 [(1,3),(1,6)] fun K hK=>?_)|(apply zf 7 [(1,3),(1,6)] fun K hK=>?_)|(apply zf 8 [(1,3),(1,6)] fun K hK=>?_)|(apply zr ?_;try intro _)|(apply zt ?_ ?_<;>clear hK K)|apply WpT.step ?_|apply zm rfl ?_|apply Rx.rt ?_)
 refine WpL.call rfl eVk eAk ?_;simp only[List.cons_append,List.nil_append,List.append_nil]
 refine zu.mono ?_ (jr hG 4 0 1 (by omega) (by omega) (H2.next+1) Ha H2.next _ _ hrHa (by omega))
 rintro _ H6 ⟨⟨cs,rfl,hc1,hc2,hc3⟩,hrH6,nH6,oH6⟩
 rw[← hV1]at hc3 hrH6
 obtain⟨p0,p1,p2,p3,p4,rfl⟩:=zcL hc1
 obtain⟨u0,u1,u2,u3,u4⟩:=zi7 hc2
 have hatH6:=hatHa.keep nH6 fun q hq=>oH6 q (by omega) (by omega)
 have gtH6:=hatH6.t5
 have gfH6:H6.get (H2.next+7)=some (.cells [.str [102],.sl (H2.next+3) 0 2 1,.sl (H2.next+4) 0 2 1,v1,.int .i64 0,.int .i64 0,.str [],.int .i64 0,.nilS,.str [103],.sl (H2.next+5) 0 1 1,.sl (H2.next+6) 0 1 1,.nilS,.int .i64 0,.int .i64 0,.str [],.int .i64 0,.nilS] 0 true):=by rw[oH6 _ (by omega) (by omega)];exact gfHa
 dsimp only[zA]
 repeat' (first
  | (apply Rx.nl ?_;clear hK K)|apply Ry.o ?_|apply Ry.on ?_|apply Wp.seq ?_|(apply zd fun K hK=>?_)|(apply zf 5 [(1,3),(1,6)] fun K hK=>?_)|(apply zf 6 [(1,3),(1,6)] fun K hK=>?_)|(apply zf 7 [(1,3),(1,6)] fun K hK=>?_)|(apply zf 8 [(1,3),(1,6)] fun K hK=>?_)|(apply zr ?_;try intro _)|(apply zt ?_ ?_<;>clear hK K)|apply WpT.step ?_|apply zm rfl ?_|apply Rx.rt ?_)
 ·exact eK
 generalize hHa:Hp.set H6 (H2.next+7) _=Hb
 have nHb:Hb.next=H6.next:=by rw[← hHa];rfl
 have oHb:∀ q,q≠H2.next+7→Hb.get q=H6.get q:=fun q hq=>by rw[← hHa,Hp.get_set,if_neg hq]
 have gfHb:Hb.get (H2.next+7)=some (.cells [.str [102],.sl (H2.next+3) 0 2 1,.sl (H2.next+4) 0 2 1,v1,p0,p1,p2,p3,p4,.str [103],.sl (H2.next+5) 0 1 1,.sl (H2.next+6) 0 1 1,.nilS,.int .i64 0,.int .i64 0,.str [],.int .i64 0,.nilS] 0 true):=by rw[← hHa,Hp.get_set,if_pos rfl]
 clear hHa
 have hatHb:=hatH6.keep (Nat.le_of_eq nHb.symm) fun q hq=>oHb q (by omega)
 have gtHb:=hatHb.t5
 have hrHb:=hrH6.keep (Nat.le_of_eq nHb.symm) fun q hq=>oHb q (by omega)
 repeat' (first
  | (apply Rx.nl ?_;clear hK K)|apply Ry.o ?_|apply Ry.on ?_|apply Wp.seq ?_|(apply zd fun K hK=>?_)|(apply zf 5 [(1,3),(1,6)] fun K hK=>?_)|(apply zf 6 [(1,3),(1,6)] fun K hK=>?_)|(apply zf 7 [(1,3),(1,6)] fun K hK=>?_)|(apply zf 8 [(1,3),(1,6)] fun K hK=>?_)|(apply zr ?_;try intro _)|(apply zt ?_ ?_<;>clear hK K)|apply WpT.step ?_|apply zm rfl ?_|apply Rx.rt ?_)
 refine WpL.call rfl eVk eAk ?_;simp only[List.cons_append,List.nil_append,List.append_nil]
 refine zu.mono ?_ (zd9 hG (hst 1 3 1 (by omega) (by omega)) 3 (by omega) (by omega) (H2.next+1) Hb H2.next (V1.2,B1.2.2) hrHb (by simp only[];omega))
 rintro v2 H7 ⟨hrow2,hrH7,nH7,oH7⟩
 rw[← hB2]at hrow2 hrH7
 obtain⟨s1,s2⟩:=hrow2.one
 have hatH7:=hatHb.keep nH7 fun q hq=>oH7 q (by omega) (by omega)
 have gtH7:=hatH7.t5
 have gfH7:H7.get (H2.next+7)=some (.cells [.str [102],.sl (H2.next+3) 0 2 1,.sl (H2.next+4) 0 2 1,v1,p0,p1,p2,p3,p4,.str [103],.sl (H2.next+5) 0 1 1,.sl (H2.next+6) 0 1 1,.nilS,.int .i64 0,.int .i64 0,.str [],.int .i64 0,.nilS] 0 true):=by rw[oH7 _ (by omega) (by omega)];exact gfHb
 dsimp only[zA]
 repeat' (first
  | (apply Rx.nl ?_;clear hK K)|apply Ry.o ?_|apply Ry.on ?_|apply Wp.seq ?_|(apply zd fun K hK=>?_)|(apply zf 5 [(1,3),(1,6)] fun K hK=>?_)|(apply zf 6 [(1,3),(1,6)] fun K hK=>?_)|(apply zf 7 [(1,3),(1,6)] fun K hK=>?_)|(apply zf 8 [(1,3),(1,6)] fun K hK=>?_)|(apply zr ?_;try intro _)|(apply zt ?_ ?_<;>clear hK K)|apply WpT.step ?_|apply zm rfl ?_|apply Rx.rt ?_)
 ·exact eK
 generalize hHa:Hp.set H7 (H2.next+7) _=Hc
 have nHc:Hc.next=H7.next:=by rw[← hHa];rfl
 have oHc:∀ q,q≠H2.next+7→Hc.get q=H7.get q:=fun q hq=>by rw[← hHa,Hp.get_set,if_neg hq]
 have gfHc:Hc.get (H2.next+7)=some (.cells [.str [102],.sl (H2.next+3) 0 2 1,.sl (H2.next+4) 0 2 1,v1,p0,p1,p2,p3,p4,.str [103],.sl (H2.next+5) 0 1 1,.sl (H2.next+6) 0 1 1,v2,.int .i64 0,.int .i64 0,.str [],.int .i64 0,.nilS] 0 true):=by rw[← hHa,Hp.get_set,if_pos rfl]
 clear hHa
 have hatHc:=hatH7.keep (Nat.le_of_eq nHc.symm) fun q hq=>oHc q (by omega)
 have gtHc:=hatHc.t5
 have hrHc:=hrH7.keep (Nat.le_of_eq nHc.symm) fun q hq=>oHc q (by omega)
 repeat' (first
  | (apply Rx.nl ?_;clear hK K)|apply Ry.o ?_|apply Ry.on ?_|apply Wp.seq ?_|(apply zd fun K hK=>?_)|(apply zf 5 [(1,3),(1,6)] fun K hK=>?_)|(apply zf 6 [(1,3),(1,6)] fun K hK=>?_)|(apply zf 7 [(1,3),(1,6)] fun K hK=>?_)|(apply zf 8 [(1,3),(1,6)] fun K hK=>?_)|(apply zr ?_;try intro _)|(apply zt ?_ ?_<;>clear hK K)|apply WpT.step ?_|apply zm rfl ?_|apply Rx.rt ?_)
 refine WpL.call rfl eVk eAk ?_;simp only[List.cons_append,List.nil_append,List.append_nil]
 refine zu.mono ?_ (jr hG 4 1 1 (by omega) (by omega) (H2.next+1) Hc H2.next _ _ hrHc (by omega))
 rintro _ H8 ⟨⟨ds,rfl,hd1,hd2,hd3⟩,hrH8,nH8,oH8⟩
 rw[← hV2]at hd3 hrH8
 obtain⟨w0,w1,w2,w3,w4,rfl⟩:=zcL hd1
 obtain⟨z0,z1,z2,z3,z4⟩:=zi7 hd2
 have hatH8:=hatHc.keep nH8 fun q hq=>oH8 q (by omega) (by omega)
 have gtH8:=hatH8.t5
 have gfH8:H8.get (H2.next+7)=some (.cells [.str [102],.sl (H2.next+3) 0 2 1,.sl (H2.next+4) 0 2 1,v1,p0,p1,p2,p3,p4,.str [103],.sl (H2.next+5) 0 1 1,.sl (H2.next+6) 0 1 1,v2,.int .i64 0,.int .i64 0,.str [],.int .i64 0,.nilS] 0 true):=by rw[oH8 _ (by omega) (by omega)];exact gfHc
 dsimp only[zA]
 repeat' (first
  | (apply Rx.nl ?_;clear hK K)|apply Ry.o ?_|apply Ry.on ?_|apply Wp.seq ?_|(apply zd fun K hK=>?_)|(apply zf 5 [(1,3),(1,6)] fun K hK=>?_)|(apply zf 6 [(1,3),(1,6)] fun K hK=>?_)|(apply zf 7 [(1,3),(1,6)] fun K hK=>?_)|(apply zf 8 [(1,3),(1,6)] fun K hK=>?_)|(apply zr ?_;try intro _)|(apply zt ?_ ?_<;>clear hK K)|apply WpT.step ?_|apply zm rfl ?_|apply Rx.rt ?_)
 ·exact eK
 generalize hHa:Hp.set H8 (H2.next+7) _=Hd
 have nHd:Hd.next=H8.next:=by rw[← hHa];rfl
 have oHd:∀ q,q≠H2.next+7→Hd.get q=H8.get q:=fun q hq=>by rw[← hHa,Hp.get_set,if_neg hq]
 have gfHd:Hd.get (H2.next+7)=some (.cells [.str [102],.sl (H2.next+3) 0 2 1,.sl (H2.next+4) 0 2 1,v1,p0,p1,p2,p3,p4,.str [103],.sl (H2.next+5) 0 1 1,.sl (H2.next+6) 0 1 1,v2,w0,w1,w2,w3,w4] 0 true):=by rw[← hHa,Hp.get_set,if_pos rfl]
 clear hHa
 have hatHd:=hatH8.keep (Nat.le_of_eq nHd.symm) fun q hq=>oHd q (by omega)
 have gtHd:=hatHd.t5
 have hrHd:=hrH8.keep (Nat.le_of_eq nHd.symm) fun q hq=>oHd q (by omega)
 have gr:=hatHd.rs
 have e1:(H2.next+2 == H.next)=false:=zF (by omega)
 have gh0:=@zrQ
 repeat' (first
  | (apply Rx.nl ?_;clear hK K)|apply Rx.o ?_|apply Rx.on ?_|apply Wp.seq ?_|(apply zd fun K hK=>?_)|(apply zf 5 [(1,3),(1,6)] fun K hK=>?_)|(apply zf 6 [(1,3),(1,6)] fun K hK=>?_)|(apply zf 7 [(1,3),(1,6)] fun K hK=>?_)|(apply zf 8 [(1,3),(1,6)] fun K hK=>?_)|(apply zr ?_;try intro _)|(apply zt ?_ ?_<;>clear hK K)|apply WpT.step ?_|apply zm rfl ?_|apply Rx.rt ?_)
 refine⟨eI,_,(by(try simp only[sB,sO,Nat.reduceBEq,Nat.reduceAdd,Nat.reduceLeDiff,tyF,zQ,yb,zrQ, *]);first|done|with_reducible rfl),?_⟩;try simp only[zp]
 have old:∀ q,q < H.next→((Hd.set H.next (.cells [.sl (H2.next+1) 0 2 2,.sl (H2.next+7) 0 2 9] 0 true)).get q=H.get q):=fun q hq=>by
  rw[Hp.get_set,if_neg (by omega),oHd _ (by omega),oH8 _ (by omega) (by omega),oHc _ (by omega),oH7 _ (by omega) (by omega),oHb _ (by omega),oH6 _ (by omega) (by omega),oHa _ (by omega),o5 _ (by omega) (by omega)]
  exact os q hq
 have hz:=hatHd.keep (H':=Hd.set H.next (.cells [.sl (H2.next+1) 0 2 2,.sl (H2.next+7) 0 2 9] 0 true)) (Nat.le_refl _)
 refine⟨H2.next+1,H2.next+7,x,y,[.str [102],.sl (H2.next+3) 0 2 1,.sl (H2.next+4) 0 2 1,v1,p0,p1,p2,p3,p4],[.str [103],.sl (H2.next+5) 0 1 1,.sl (H2.next+6) 0 1 1,v2,w0,w1,w2,w3,w4],rfl,?_,by simp only[ze];omega,old,by omega,zeA H2.next H5.next H6.next H7.next,.sl (H2.next+3) 0 2 1,.sl (H2.next+4) 0 2 1,v1,[p0,p1,p2,p3,p4],.sl (H2.next+5) 0 1 1,.sl (H2.next+6) 0 1 1,v2,[w0,w1,w2,w3,w4],rfl,rfl,?_,hA,fun q hq=>by unfold zeA;rw[if_pos (by omega)]⟩
 all_goals
  have gz:∀ q,q≠H.next→(Hd.set H.next (.cells [.sl (H2.next+1) 0 2 2,.sl (H2.next+7) 0 2 9] 0 true)).get q=Hd.get q:=fun q hq=>by rw[Hp.get_set,if_neg hq]
  have nz:(Hd.set H.next (.cells [.sl (H2.next+1) 0 2 2,.sl (H2.next+7) 0 2 9] 0 true)).next=Hd.next:=rfl
  generalize (Hd.set H.next (.cells [.sl (H2.next+1) 0 2 2,.sl (H2.next+7) 0 2 9] 0 true))=Hz at *
  have hl:=hatHd.lt
 ·refine⟨by rw[hgP,hA],by rw[gz _ (by omega)];exact hatHd.ra,by rw[gz _ (by omega)];exact gfHd,⟨by omega,by omega⟩,⟨by omega,by omega⟩,by omega,rfl,rfl,?_,?_⟩
  ·rw[hF1]
   refine zhA (n:=13) [102] rfl (zhB (n:=12) (imm:=0) (tip:=true) [[120],[121]] ⟨by omega,by omega,by omega⟩ (by omega) (by rw[gz _ (by omega)];exact hatHd.p1) (by simp)) (zhB (n:=12) (imm:=0) (tip:=true) [[105],[106]] ⟨by omega,by omega,by omega⟩ (by omega) (by rw[gz _ (by omega)];exact hatHd.l1) (by simp)) ?_ ?_
   ·exact(hrow1.keep (fun q _ hq=>⟨by omega,by omega,by omega⟩) (by omega) fun q h1 h2=>by rw[gz _ (by omega),oHd _ (by omega),oH8 _ (by omega) (by omega),oHc _ (by omega),oH7 _ (by omega) (by omega),oHb _ (by omega),oH6 _ (by omega) (by omega),oHa _ (by omega)]).rd.up (by omega)
   ·exact(hc3.up (by omega)).keep2 (fun q _ hq=>⟨by omega,by omega,by omega⟩) (by omega) fun q h1 h2=>by rw[gz _ (by omega),oHd _ (by omega),oH8 _ (by omega) (by omega),oHc _ (by omega),oH7 _ (by omega) (by omega),oHb _ (by omega)]
  ·rw[hF2]
   refine zhA (n:=13) [103] rfl (zhB (n:=12) (imm:=0) (tip:=true) [[110]] ⟨by omega,by omega,by omega⟩ (by omega) (by rw[gz _ (by omega)];exact hatHd.p2) (by simp)) (zhB (n:=12) (imm:=0) (tip:=true) [[105]] ⟨by omega,by omega,by omega⟩ (by omega) (by rw[gz _ (by omega)];exact hatHd.l2) (by simp)) ?_ ?_
   ·exact(hrow2.keep (fun q _ hq=>⟨by omega,by omega,by omega⟩) (by omega) fun q h1 h2=>by rw[gz _ (by omega),oHd _ (by omega),oH8 _ (by omega) (by omega),oHc _ (by omega)]).rd.up (by omega)
   ·exact(hd3.up (by omega)).keep2 (fun q _ hq=>⟨by omega,by omega,by omega⟩) (by omega) fun q h1 h2=>by rw[gz _ (by omega),oHd _ (by omega)]
 ·have ls:=hat.lt
  refine⟨by rw[gz _ (by omega)];exact hatHd.ra,by rw[gz _ (by omega),gfHd,hF1,hF2];rfl,by omega,by omega,by simp[zeA],by simp[zeA],⟨hc1,hc2,?_,?_,?_,?_⟩,⟨hd1,hd2,?_,?_,?_,?_⟩⟩
  ·rw[hF1];exact zfV (n:=13) [[120],[121]] (by simp[zeA]) (by omega) (by rw[gz _ (by omega)];exact hatHd.p1)
  ·rw[hF1];exact zfV (n:=13) [[105],[106]] (by simp[zeA]) (by omega) (by rw[gz _ (by omega)];exact hatHd.l1)
  ·rw[hF1];exact(hrow1.keep (fun q h1 h2=>labP5 (by omega) h1) (by omega) fun q h1 h2=>by rw[gz _ (by omega),oHd _ (by omega),oH8 _ (by omega) (by omega),oHc _ (by omega),oH7 _ (by omega) (by omega),oHb _ (by omega),oH6 _ (by omega) (by omega),oHa _ (by omega)]).up (by omega)
  ·rw[hF1];exact(hc3.up (by omega)).keep2 (fun q h1 h2=>labP6 (by omega) (by omega) h1) (by omega) fun q h1 h2=>by rw[gz _ (by omega),oHd _ (by omega),oH8 _ (by omega) (by omega),oHc _ (by omega),oH7 _ (by omega) (by omega),oHb _ (by omega)]
  ·rw[hF2];exact zfV (n:=13) [[110]] (by simp[zeA]) (by omega) (by rw[gz _ (by omega)];exact hatHd.p2)
  ·rw[hF2];exact zfV (n:=13) [[105]] (by simp[zeA]) (by omega) (by rw[gz _ (by omega)];exact hatHd.l2)
  ·rw[hF2];exact(hrow2.keep (fun q h1 h2=>labP9 (by omega) (by omega) (by omega) h1) (by omega) fun q h1 h2=>by rw[gz _ (by omega),oHd _ (by omega),oH8 _ (by omega) (by omega),oHc _ (by omega)]).up (by omega)
  ·rw[hF2];exact(hd3.up (by omega)).keep2 (fun q h1 h2=>labP10 (by omega) (by omega) (by omega) (by omega)) (by omega) fun q h1 h2=>by rw[gz _ (by omega),oHd _ (by omega)]
end Go.Proofs.Ytpbcimfiofmoeaa
