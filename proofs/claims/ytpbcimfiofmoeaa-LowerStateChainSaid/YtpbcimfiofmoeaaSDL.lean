/- Parts: LoI, LoJ, W4a, W4b, W4c, W4d, P4f, P4g, W4e. -/
import Derived.Test.YtpbcimfiofmoeaaSDK
set_option linter.unusedSimpArgs false
set_option linter.unusedVariables false
set_option linter.unusedSectionVars false
set_option linter.defProp false
set_option maxHeartbeats 32000000
namespace Go.Proofs.Ytpbcimfiofmoeaa
set_option maxRecDepth 20000
set_option maxRecDepth 20000
open Go Go.Ab
namespace tyLoI
def tyF:=And.intro @tq3 (And.intro @tq9 (And.intro @za9 (And.intro @zba (And.intro @zau (And.intro @zbw (And.intro @tq2 (And.intro @zcV (And.intro @zg4 (And.intro @zcj (And.intro @zgd (@zh7)))))))))))
end tyLoI
open tyLoI
noncomputable def code60:{ c:SC // slim 16 (Try.f60.body.getD .skip)=c }:=by
 refine⟨?_,?_⟩
 rotate_left
 ·simp only[Try.f60,Option.getD_some,slim,zZ,zS,z6,z7,Nat.blt,Nat.ble]
  rfl
theorem zbO.pre {X:Lx}{S S0:Nat→Prop}{v0 vv:AV}{H H0:Hp}{r:Bd}{v:AV}{H':Hp} (h:zbO X S vv H r v H') (hf:FrL X S0 v0 H0 S vv H):zbO X S0 v0 H0 r v H':=by
 obtain⟨S',lv',vv',h2,h3⟩:=h
 exact⟨S',lv',vv',h2,hf.trans h3⟩
section
variable {tb:List En} (hG:LowT tb) {X:Lx} {c:Cx} (hX:CxOk X c)
set_option maxRecDepth 100000 in
set_option maxHeartbeats 4000000 in
include hG hX in
theorem lst_wp {n:Nat} (IH:∀ m,m < n→PSts tb X c m) {x:St}{s r:Bd} (h:stL c n x s=some r) (hF:Fin r) (hz:x.sz < 2 ^ 36) (hvl:s.vars.length < 2 ^ 36) {H:Hp}{S:Nat→Prop}{lv vv:AV} (hR:RepL X H S s lv vv) :
 zr Try.prog (zK pls tb) 99 [.ptr X.b 0,.agg x.cells] H (zbO X S vv H r):=by
 cases n with
 | zero=>simp[stL]at h
 | succ n=>
 have hw:Plain (zK pls tb) 99:=hG.plain (by rfl)
 have R1:=hR.alloc (.cells x.cells 0 true)
 have F1:=(FrL.refl X S vv H).alloc (.cells x.cells 0 true)
 unfold stL at h
 by_cases k1:x.kind=1
 ·rw[if_pos k1]at h
  simp only[Option.bind_eq_some_iff]at h
  obtain⟨v,h1,h⟩:=h
  split at h
  ·rename_i hl
   cases h
   exact lst1 hG hX k1 h1 hl ⟨hF.r,hF.l,hF.n⟩ hR
  ·cases h
 rw[if_neg k1]at h
 by_cases k2:x.kind=2
 ·rw[if_pos k2]at h
  simp only[Option.bind_eq_some_iff,Option.some.injEq]at h
  obtain⟨i,h1,v,h2,a,ha,rfl⟩:=h
  exact lst2 hG hX k2 h1 h2 ha ⟨hF.r,hF.l,hF.n⟩ hR
 rw[if_neg k2]at h
 by_cases k3:x.kind=3
 ·rw[if_pos k3]at h
  simp only[Option.bind_eq_some_iff,Option.some.injEq]at h
  obtain⟨q,h1,a,h2,b,h3,m,h4,rfl⟩:=h
  have main:=lif hG hX (IH n (Nat.lt_succ_self n)) h1 h2 h3 h4 ⟨hF.r,hF.l,hF.n⟩ hz hvl R1
  refine zj (M:=155) (rs:=[]) (hw.call _) hw.ice hw.froz Try.func99 rfl rfl zd6.2 rfl ?_;dsimp only[zd6,zO,Nat.reduceAdd]
  repeat' (first
   | (apply Rx.nl ?_;clear hK K)|apply Ry.o ?_|(apply Ry.cd (fun hb hbp=>?_) (fun hb hbp=>?_)<;>try (cases hb;done))|apply Wp.seq ?_|(apply zd fun K hK=>?_)|apply Wp.block ?_)
  refine WpL.call rfl eVk eAk ?_;simp only[List.cons_append,List.nil_append,List.append_nil]
  refine zr.mono ?_ main
  intro w H2 h2
  have h3:=h2.pre F1
  clear h2 main
  dsimp only[zA]
  repeat' (first
   | (apply Rx.nl ?_;clear hK K)|apply Wp.seq ?_|(apply zd fun K hK=>?_)|apply Wp.block ?_)
  all_goals (refine⟨eI,_,eR,?_⟩;try simp only[zp])
  exact h3
 rw[if_neg k3]at h
 by_cases k4:x.kind=4
 ·rw[if_pos k4]at h
  cases n with
  | zero=>simp[whL]at h
  | succ n=>
  unfold whL at h
  simp only[Option.bind_eq_some_iff,Option.some.injEq]at h
  obtain⟨q,h1,b,hb,t,h2,d,h3,rfl⟩:=h
  have main:=lwh hG hX (IH n (by omega)) h1 hb h2 h3 rfl rfl hF hz hvl (wh_out (s:={ (zm ⟨3,16 * (s.loops:Int),[]⟩ q.2).2 with state:=(zm ⟨3,16 * (s.loops:Int),[]⟩ q.2).1 }) (v:=q.2.vars) rfl hb h2 h3) R1
  refine zj (M:=155) (rs:=[]) (hw.call _) hw.ice hw.froz Try.func99 rfl rfl zd6.2 rfl ?_;dsimp only[zd6,zO,Nat.reduceAdd]
  repeat' (first
   | (apply Rx.nl ?_;clear hK K)|apply Ry.o ?_|(apply Ry.cd (fun hb hbp=>?_) (fun hb hbp=>?_)<;>try (cases hb;done))|apply Wp.seq ?_|(apply zd fun K hK=>?_)|apply Wp.block ?_)
  refine WpL.call rfl eVk eAk ?_;simp only[List.cons_append,List.nil_append,List.append_nil]
  refine zr.mono ?_ main
  intro w H2 h2
  have h3:=h2.pre F1
  clear h2 main
  dsimp only[zA]
  repeat' (first
   | (apply Rx.nl ?_;clear hK K)|apply Wp.seq ?_|(apply zd fun K hK=>?_)|apply Wp.block ?_)
  all_goals (refine⟨eI,_,eR,?_⟩;try simp only[zp])
  exact h3
 rw[if_neg k4]at h
 by_cases k5:x.kind=5
 ·rw[if_pos k5]at h
  simp only[Option.bind_eq_some_iff,Option.some.injEq]at h
  obtain⟨v,h1,rfl⟩:=h
  exact lst5 hG hX k5 h1 ⟨hF.r,hF.l,hF.n⟩ hR
 rw[if_neg k5]at h
 by_cases k6:x.kind=6
 ·rw[if_pos k6]at h
  simp only[Option.bind_eq_some_iff]at h
  obtain⟨av,h1,h⟩:=h
  split at h
  ·rename_i hc
   cases h
   exact lst6 hG hX k6 h1 hc.1 hc.2 hz ⟨hF.r,hF.l,hF.n⟩ hR
  ·cases h
 rw[if_neg k6]at h
 by_cases k7:x.kind=7
 ·rw[if_pos k7]at h
  cases h
  exact lst7 hG k7 hF hR
 rw[if_neg k7]at h
 cases h
 exact lst0 hG k1 k2 k3 k4 k5 k6 k7 hR
set_option maxRecDepth 100000 in
set_option maxHeartbeats 4000000 in
include hG hX in
theorem zlH:∀ (N n:Nat),n < N→PSts tb X c n
 | 0,n,hn=>by omega
 | N+1,n,hn=>fun l s r h hF hz hvl H S lv vv hR=>by
   have hw:Plain (zK pls tb) 60:=hG.plain (by rfl)
   have hll:=j8 l
   refine zj (M:=16) (rs:=[]) (hw.call _) hw.ice hw.froz Try.func60 rfl rfl code60.2 rfl ?_;dsimp only[code60,zO,Nat.reduceAdd]
   repeat' (first
    | (apply Rx.nl ?_;clear hK K)|apply Rx.o ?_|apply Wp.seq ?_|(apply zd fun K hK=>?_)|apply Wp.block ?_|apply zh ?_|apply zk ?_)
   refine yd [0,6,7] [] 8 l.length (fun i E H2=>∃ m si Si lvi vvi,m≤n∧zav c m (l.drop i) si=some r∧si.vars.length=s.vars.length∧RepL X H2 Si si lvi vvi∧FrL X S vv H Si vvi H2) eE ⟨n,s,S,lv,vv,Nat.le_refl _,h,rfl,hR,FrL.refl _ _ _ _⟩ ?_
   rintro i E H2 hi hcE hrH hnH hsI ⟨m,si,Si,lvi,vvi,hm,hJ,hvi,Ri,Fi⟩
   (try simp only[zi,zl,and_true,sB,sO,Nat.reduceBEq,Nat.reduceAdd,Nat.reduceLeDiff,tyF, *]at hcE)
   (try simp only[zi,zl,and_true,sB,sO,Nat.reduceBEq,Nat.reduceAdd,Nat.reduceLeDiff,tyF, *]at hrH)
   (try simp only[zb,ze,zH,Nat.zero_add,Nat.reduceAdd]at hnH)
   by_cases hlt:i < l.length
   ·have hlt':(i:Int) < l.length:=by omega
    have hgx:l[i]?=some l[i]:=List.getElem?_eq_getElem hlt
    have hmem:=jv (List.getElem_mem hlt)
    cases m with
    | zero=>simp[zav]at hJ
    | succ m=>
    rw[List.drop_eq_getElem_cons hlt]at hJ
    unfold zav at hJ
    simp only[Option.bind_eq_some_iff]at hJ
    obtain⟨q,h1,h2⟩:=hJ
    generalize l[i]=x at *
    have hFq:Fin q:=hF.le ((zaD c m).2.1 _ _ _ h2).1
    have hql:=((zaD c m).1 _ _ _ h1).2
    repeat' (first
     | (apply Rx.nl ?_;clear hK K)|apply Ry.o ?_|apply Ry.on ?_|(apply Ry.cd (fun hb hbp=>?_) (fun hb hbp=>?_)<;>try (cases hb;done))|apply Wp.seq ?_|(apply zd fun K hK=>?_)|apply Wp.block ?_|apply zh ?_|apply zk ?_)
    refine WpL.call rfl eVk eAk ?_;simp only[List.cons_append,List.nil_append,List.append_nil]
    refine zr.mono ?_ (lst_wp hG hX (fun k hk=>zlH N k (by omega)) h1 hFq (by omega) (by omega) (Ri.alloc2 _ _))
    rintro w H3 ⟨S3,lv3,vv3,R3,F3⟩
    have F03:=((Fi.alloc2 (.cells [AV.int .i64 0,.str [],.str [],.int .i64 0,.int .i64 0,.int .i64 0,.str [],.int .i64 0,.nilS,.int .i64 0,.int .i64 0,.str [],.int .i64 0,.nilS,.nilS,.nilS,.nilS] 0 true) (.cells x.cells 0 true))).trans F3
    have n3:H2.next+1≤H3.next:=F3.next
    have hql':q.vars.length=s.vars.length:=by omega
    clear hql hvi
    dsimp only[zA]
    repeat' (first
     | (apply Rx.nl ?_;clear hK K)|apply Rx.o ?_|apply Wp.seq ?_|(apply zd fun K hK=>?_)|apply Wp.block ?_|apply zh ?_|apply zk ?_)
    refine⟨by omega,eL,eL,eN,(by simp only[sB,Nat.reduceBEq, *];exact zT (n:=l.length) (by omega) (by omega)),?_⟩
    exact⟨m,q,S3,lv3,vv3,by omega,h2,hql',R3,F03⟩
   ·have hlt':¬ (i:Int) < l.length:=by omega
    have hd:l.drop i=[]:=List.drop_eq_nil_of_le (by omega)
    rw[hd]at hJ
    cases m with
    | zero=>simp[zav]at hJ
    | succ m=>
    have hJ:si=r:=by unfold zav at hJ;simpa using hJ
    subst hJ
    clear hvi
    repeat' (first
     | (apply Rx.nl ?_;clear hK K)|apply Ry.o ?_|apply Ry.on ?_|(apply Ry.cd (fun hb hbp=>?_) (fun hb hbp=>?_)<;>try (cases hb;done))|apply Wp.seq ?_|(apply zd fun K hK=>?_)|apply Wp.block ?_|apply zh ?_|apply zk ?_)
    all_goals (refine⟨eI,_,eR,?_⟩;try simp only[zp])
    exact⟨Si,lvi,vvi,Ri,Fi⟩
end
end Go.Proofs.Ytpbcimfiofmoeaa
namespace Go.Proofs.Ytpbcimfiofmoeaa
set_option maxRecDepth 20000
set_option maxRecDepth 20000
open Go Go.Ab
namespace tyLoJ
def tyF:=And.intro @tq2 (And.intro @tq3 (And.intro @tq9 (And.intro @zcV (And.intro @tq25 (And.intro @zg4 (And.intro @tq28 (And.intro @zcj (And.intro @zcc (And.intro @za9 (And.intro @zba (And.intro @zau (And.intro @zfA (And.intro @zbw (And.intro @zgd (And.intro @zh7 (@bI1))))))))))))))))
end tyLoJ
open tyLoJ
noncomputable def code30:{ c:SC // slim 94 (Try.f30.body.getD .skip)=c }:=by
 refine⟨?_,?_⟩
 rotate_left
 ·simp only[Try.f30,Option.getD_some,slim,zZ,zS,z6,z7,Nat.blt,Nat.ble]
  rfl
def nmE:List Nm→Nat→List (Nm×Int)→List (Nm×Int)
 | [],_,m=>m
 | a::l,i,m=>nmE l (i+1) (setV m a i)
theorem zfU:∀ (l:List Nm) (a:Nm) (i:Nat) (m:List (Nm×Int)),nmE (l++[a]) i m=setV (nmE l i m) a ((i+l.length:Nat):Int)
 | [],a,i,m=>rfl
 | b::l,a,i,m=>by
   rw[List.cons_append,nmE,zfU l a (i+1),nmE,List.length_cons,show i+1+l.length=i+(l.length+1) by omega]
theorem ziE:∀ (n k:Nat) (s:Bd),Le s (prL n k s)∧(prL n k s).vars.length=s.vars.length+n
 | 0,k,s=>⟨Le.refl s,rfl⟩
 | n+1,k,s=>by
   have e:=ziE n (k+1) { (zm ⟨2,k,[]⟩ s).2 with vars:=(zm ⟨2,k,[]⟩ s).2.vars++[(zm ⟨2,k,[]⟩ s).1] }
   refine⟨(((zV ⟨2,k,[]⟩ s).le.setV _)).trans e.1,?_⟩
   show(prL n (k+1) _).vars.length=_
   rw[e.2,List.length_append]
   show s.vars.length+1+n=_
   omega
theorem ziF:∀ (n:Nat) (s:Bd),Le s (loL n s)∧(loL n s).vars.length=s.vars.length+n
 | 0,s=>⟨Le.refl s,rfl⟩
 | n+1,s=>by
   have e:=ziF n { (zm ⟨1,0,[]⟩ s).2 with vars:=(zm ⟨1,0,[]⟩ s).2.vars++[(zm ⟨1,0,[]⟩ s).1] }
   refine⟨(((zV ⟨1,0,[]⟩ s).le.setV _)).trans e.1,?_⟩
   show(loL n _).vars.length=_
   rw[e.2,List.length_append]
   show s.vars.length+1+n=_
   omega
abbrev Lx.nx (X:Lx) (ne:List (Nm×Int)):Lx:={ X with ne:=ne }
theorem RepL.setNe {X:Lx}{H:Hp}{S:Nat→Prop}{s:Bd}{lv vv:AV} (h:RepL X H S s lv vv) (ne:List (Nm×Int)):RepL (X.nx ne) (H.set X.rn (.map (vEs ne))) S s lv vv:=by
 have o1:=h.o1
 have o2:=h.o2
 have o3:=h.o3
 have o4:=h.o4
 have o5:=h.o5
 have hg:∀ k,k≠X.rn→(H.set X.rn (.map (vEs ne))).get k=H.get k:=fun k hk=>by rw[Hp.get_set,if_neg hk]
 exact⟨by rw[hg _ (by show X.b≠_;omega)];exact h.m,by rw[hg _ (by show X.ra≠_;omega)];exact h.a,by rw[hg _ (by show X.rf≠_;omega)];exact h.f,by rw[hg _ (by show X.rt≠_;omega)];exact h.t,by rw[Hp.get_set,if_pos rfl],h.nodes.keep (fun _ _ h=>h) (Nat.le_refl _) fun k hk _=>hg k (by have:=(h.sS k hk).1;omega),h.vars.keep (Nat.le_refl _) fun k hk=>hg k (by have:=(h.vS k hk).1;omega),o1,o2,o3,o4,o5,h.sS,h.vS⟩
theorem RepL.pushV {X:Lx}{H:Hp}{S:Nat→Prop}{s:Bd}{lv vv:AV} (h:RepL X H S s lv vv) (x:Int) (hl:s.vars.length < 2 ^ 36) :
 ∃ v' H',zX Try.prog false (H.alloc (.cells [.int .i64 x] 0 true)) 23 23 vv (.sl H.next 0 1 1)=some (v',H')∧AV.one v'=true∧v'.cells=[v']∧H'.get X.b=some (.cells (lc X s lv vv) 0 true)∧H'.next=H.next+2∧(∀ k,k < H.next→¬ yq vv k→H'.get k=H.get k) ∧
   RepL X (H'.set X.b (.cells (lc X { s with vars:=s.vars++[x] } lv v') 0 true)) S { s with vars:=s.vars++[x] } lv v' ∧
   FrL X S vv H S v' (H'.set X.b (.cells (lc X { s with vars:=s.vars++[x] } lv v') 0 true)):=by
 have o1:=h.o1
 have o2:=h.o2
 have o3:=h.o3
 have o4:=h.o4
 have o5:=h.o5
 have hv:zfF (H.alloc (.cells [.int .i64 x] 0 true)) vv s.vars 0:=h.vars.keep (Nat.le_succ _) fun k hk=>by rw[za,if_neg (by have:=(h.vS k hk).2;omega)]
 have hx:yk (H.alloc (.cells [.int .i64 x] 0 true)) 1 (.sl H.next 0 1 1)=some ([x].length,[x].map (.int .i64)):=zcX (m:=[x]) (imm:=0) (by rw[za,if_pos rfl];rfl)
 obtain⟨v',H',a1,a2,a3,a4,a5,a6⟩:=zln hv (Nat.zero_le _) hx (by simp) (by simp;omega)
 simp only[zb]at a3 a5 a6
 have hold:∀ k,k < H.next→¬ yq vv k→H'.get k=H.get k:=fun k h1 h2=>by rw[a5 k (by omega) h2,za,if_neg (by omega)]
 have hnb:∀ k,k≤X.b→¬ yq vv k:=fun k hk e=>by have:=(h.vS k e).1;omega
 have hone:=zfF.one (.inr a2)
 have hg:∀ k,k≠X.b→(H'.set X.b (.cells (lc X { s with vars:=s.vars++[x] } lv v') 0 true)).get k=H'.get k:=fun k hk=>by rw[Hp.get_set,if_neg hk]
 refine⟨v',H',a1,hone.1,hone.2,by rw[hold _ o5 (hnb _ (Nat.le_refl _))];exact h.m,by omega,hold,⟨by rw[Hp.get_set,if_pos rfl],by rw[hg _ (by omega),hold _ (by omega) (hnb _ (by omega))];exact h.a,by rw[hg _ (by omega),hold _ (by omega) (hnb _ (by omega))];exact h.f,by rw[hg _ (by omega),hold _ (by omega) (hnb _ (by omega))];exact h.t,by rw[hg _ (by omega),hold _ (by omega) (hnb _ (by omega))];exact h.n,h.nodes.keep (fun _ _ h=>h) (by simp only[ze];omega) fun k hk h6=>by rw[hg k (by have:=(h.sS k hk).1;omega),hold k h6 (h.sS k hk).2.2],?_,o1,o2,o3,o4,by simp only[ze];omega,fun k hk=>⟨(h.sS k hk).1,by have:=(h.sS k hk).2.1;simp only[ze];omega,fun e=>?_⟩,fun k hk=>?_⟩,⟨by simp only[ze];omega,fun k h1 h2 _ _ h5=>by rw[hg k h2,hold k h1 h5],fun _ h=>.inl h,fun k hk=>?_⟩⟩
 ·have a2':zfF H' v' (s.vars++[x]) 0:=.inr a2
  exact a2'.keep (Nat.le_refl _) fun k hk=>hg k fun e=>by
   rcases a6 k hk with q|q
   ·have:=(h.vS k q).1;omega
   ·omega
 ·rcases a6 k e with q|q
  ·exact(h.sS k hk).2.2 q
  ·have:=(h.sS k hk).2.1;omega
 ·have hlt:k < H'.next:=(zfF.lt (.inr a2) hk).2
  rcases a6 k hk with q|q
  ·exact⟨(h.vS k q).1,hlt⟩
  ·exact⟨by omega,hlt⟩
 ·rcases a6 k hk with q|q
  ·exact .inl q
  ·exact .inr (by omega)
structure FrN (X:Lx) (H0:Hp) (S:Nat→Prop) (vv:AV) (H:Hp):Prop where
 next:H0.next≤H.next
 get:∀ k,k < H0.next→k≠X.b→k≠X.rt→k≠X.rn→H.get k=H0.get k
 sub:∀ k,S k→H0.next≤k
 own:∀ k,yq vv k→H0.next≤k
theorem FrN.fr {X:Lx}{ne:List (Nm×Int)}{H0 H H':Hp}{S S':Nat→Prop}{vv vv':AV} (h:FrN X H0 S vv H) (f:FrL (X.nx ne) S vv H S' vv' H'):FrN X H0 S' vv' H' where
 next:=Nat.le_trans h.next f.next
 get k h1 h2 h3 h4:=by
  rw[f.get k (Nat.lt_of_lt_of_le h1 h.next) h2 h3 (fun e=>by have:=h.sub k e;omega) (fun e=>by have:=h.own k e;omega)]
  exact h.get k h1 h2 h3 h4
 sub k e:=by
  rcases f.sub k e with e|e
  ·exact h.sub k e
  ·exact Nat.le_trans h.next e
 own k e:=by
  rcases f.own k e with e|e
  ·exact h.own k e
  ·exact Nat.le_trans h.next e
theorem FrN.setNe {X:Lx}{H0 H:Hp}{S:Nat→Prop}{vv:AV} (h:FrN X H0 S vv H) (b:HB):FrN X H0 S vv (H.set X.rn b):=⟨h.next,fun k h1 h2 h3 h4=>by rw[Hp.get_set,if_neg h4];exact h.get k h1 h2 h3 h4,h.sub,h.own⟩
def zra (X:Lx) (H:Hp) (g:Gr) (v:AV) (H':Hp):Prop:=∃ S lv,v=.agg [.str g.name,.int .i64 g.params,lv,.int .i64 g.value,.int .i64 g.state]∧yh S 2 H' 3 lv (g.nodes.map Nd.cells)∧H.next≤H'.next∧(∀ k,S k→H.next≤k)∧∀ k,k < H.next→k≠X.b→k≠X.rt→k≠X.rn→H'.get k=H.get k
set_option maxRecDepth 100000 in
theorem lfn_wp {tb:List En} (hG:LowT tb) {X:Lx}{p:Pr}{f:Fu} (hX:CxOk (X.nx (nmE (f.params++f.locals) 0 [])) (cxL p f)) (hX0:X.ne=[]) {n:Nat}{s:Bd}{v:Int×Bd} (h1:zav (cxL p f) n f.body (j6 f)=some s) (h2:exL (cxL p f) n f.value s=some v) (hF:Fin v.2) (hz:f.sz < 2 ^ 34) {H:Hp} (hR:RepL X H (fun _=>False) ⟨[],[],0,0⟩ .nilS .nilS) :
 zr Try.prog (zK pls tb) 30 [.ptr X.b 0,.agg f.cells] H (zra X H ⟨f.name,f.params.length,v.2.l,v.1,v.2.state⟩):=by
 have hw:Plain (zK pls tb) 30:=hG.plain (by rfl)
 have hkeep:(zK pls tb).keep 30=false:=rfl
 have hsz:f.sz=1+f.name.length+jd f.params+jd f.locals+zu f.body+f.value.sz:=rfl
 have hpl:=zar f.params
 have hll:=zar f.locals
 have o1:=hR.o1
 have o2:=hR.o2
 have o3:=hR.o3
 have o4:=hR.o4
 have o5:=hR.o5
 have hFs:Fin s:=hF.le (yg _ n _ _ _ h2).le
 have hFst:Fin (j6 f):=hFs.le ((zaD _ n).2.1 _ _ _ h1).1
 have hsv:s.vars.length=(j6 f).vars.length:=((zaD _ n).2.1 _ _ _ h1).2
 have hst:j6 f=loL f.locals.length (prL f.params.length 0 { (zm ⟨26,0,[]⟩ ⟨[],[],0,0⟩).2 with state:=(zm ⟨26,0,[]⟩ ⟨[],[],0,0⟩).1 }):=rfl
 generalize hs0:({ (zm ⟨26,0,[]⟩ ⟨[],[],0,0⟩).2 with state:=(zm ⟨26,0,[]⟩ ⟨[],[],0,0⟩).1 }:Bd)=s0 at *
 have hv0:s0.vars.length=0:=by rw[← hs0];rfl
 have hF1:Fin (prL f.params.length 0 s0):=by rw[hst]at hFst;exact hFst.le (ziF _ _).1
 have hv1:(prL f.params.length 0 s0).vars.length=f.params.length:=by rw[(ziE _ _ _).2,hv0];omega
 have hF0:Fin s0:=hF1.le (ziE _ _ _).1
 have hFe:Fin (zm ⟨26,0,[]⟩ ⟨[],[],0,0⟩).2:=by rw[← hs0]at hF0;exact⟨hF0.r,hF0.l,hF0.n⟩
 have hvst:(j6 f).vars.length < 2 ^ 36:=by rw[hst,(ziF _ _).2,hv1];omega
 have R1:=(hR.alloc (.cells f.cells 0 true)).alloc (.cells [.str [],.int .i64 0,.nilS,.int .i64 0,.int .i64 0] 0 true)
 have N1:FrN X ((H.alloc (.cells f.cells 0 true)).alloc (.cells [.str [],.int .i64 0,.nilS,.int .i64 0,.int .i64 0] 0 true)) (fun _=>False) .nilS ((H.alloc (.cells f.cells 0 true)).alloc (.cells [.str [],.int .i64 0,.nilS,.int .i64 0,.int .i64 0] 0 true)):=⟨Nat.le_refl _,fun _ _ _ _ _=>rfl,fun _ h=>h.elim,fun _ h=>(zfQ h).elim⟩
 have eX:X.nx []=X:=by rw[← hX0]
 have gA:∀ {S:Nat→Prop}{vv:AV}{H':Hp},FrN X ((H.alloc (.cells f.cells 0 true)).alloc (.cells [.str [],.int .i64 0,.nilS,.int .i64 0,.int .i64 0] 0 true)) S vv H'→H'.get H.next=some (.cells f.cells 0 true)∧H'.get (H.next+1)=some (.cells [.str [],.int .i64 0,.nilS,.int .i64 0,.int .i64 0] 0 true):=fun h=>by
  refine⟨?_,?_⟩
  ·rw[h.get _ (by simp only[zb];omega) (by omega) (by omega) (by omega),za,if_neg (by simp only[zb];omega),za,if_pos rfl]
  ·rw[h.get _ (by simp only[zb];omega) (by omega) (by omega) (by omega),za,if_pos (by rfl)]
 refine zj (M:=94) (rs:=[.cell 4 28]) (hw.call _) hw.ice hw.froz Try.func30 rfl rfl code30.2 rfl ?_;dsimp only[code30,zO,Nat.reduceAdd]
 repeat' (first
  | (apply Rx.nl ?_;clear hK K)|apply Rx.o ?_|apply Rx.on ?_|apply Wp.seq ?_|(apply zd fun K hK=>?_)|(apply zf 6 [(4,7),(4,9),(8,9)] fun K hK=>?_)|(apply yo 11 fun K hK=>?_)|(apply zf 12 [(4,6),(4,8),(7,8)] fun K hK=>?_)|(apply yo 16 fun K hK=>?_)|(apply zw ?_;try intro _)|(apply zx ?_ ?_<;>clear hK K)|apply WpT.step ?_|apply zo rfl ?_|apply Wp.block ?_|apply zh ?_|apply Rx.rt ?_|apply zk ?_)
 refine WpL.call rfl eVk eAk ?_;simp only[List.cons_append,List.nil_append,List.append_nil]
 refine zr.mono ?_ (zfR hG R1 (FrL.refl _ _ _ _) 26 0 hFe)
 rintro w H2 ⟨rfl,S2,lv2,R2,F2⟩
 have m2:=R2.m
 obtain⟨R3,F3⟩:=R2.setS (zm ⟨26,0,[]⟩ ⟨[],[],0,0⟩).1
 have N3:=N1.fr (ne:=X.ne) (F2.trans F3)
 have n2:=F2.next
 simp only[zb]at n2
 clear R1 R2 F2 F3 hR
 have g3:=(gA N3).1
 dsimp only[lc]at m2 R3 N3 g3
 dsimp only[zA]
 repeat' (first
  | (apply Rx.nl ?_;clear hK K)|apply Rx.o ?_|apply Rx.on ?_|apply Wp.seq ?_|(apply zd fun K hK=>?_)|(apply zf 6 [(4,7),(4,9),(8,9)] fun K hK=>?_)|(apply yo 11 fun K hK=>?_)|(apply zf 12 [(4,6),(4,8),(7,8)] fun K hK=>?_)|(apply yo 16 fun K hK=>?_)|(apply zw ?_;try intro _)|(apply zx ?_ ?_<;>clear hK K)|apply WpT.step ?_|apply zo rfl ?_|apply Wp.block ?_|apply zh ?_|apply Rx.rt ?_|apply zk ?_)
 refine yd [0,3,4,16,17] [] 18 f.params.length (fun i E Hi=>∃ si Si lvi vvi,prL (f.params.length - i) i si=prL f.params.length 0 s0∧si.vars.length=i∧RepL (X.nx (nmE (f.params.take i) 0 [])) Hi Si si lvi vvi∧FrN X ((H.alloc (.cells f.cells 0 true)).alloc (.cells [.str [],.int .i64 0,.nilS,.int .i64 0,.int .i64 0] 0 true)) Si vvi Hi) eE ⟨s0,S2,lv2,.nilS,rfl,hv0,by rw[List.take_zero];show RepL (X.nx []) _ _ _ _ _;rw[eX,← hs0];exact R3,N3⟩ ?_
 clear R3 N3 m2 g3
 rintro i E Hi hi hcE hrH hnH hsI ⟨si,Si,lvi,vvi,hJ,hvi,Ri,Ni⟩
 (try simp only[zi,zl,and_true,sB,sO,Nat.reduceBEq,Nat.reduceAdd,Nat.reduceLeDiff,tyF, *]at hcE)
 (try simp only[zi,zl,and_true,sB,sO,Nat.reduceBEq,Nat.reduceAdd,Nat.reduceLeDiff,tyF, *]at hrH)
 (try simp only[zb,ze,zH,Nat.zero_add,Nat.reduceAdd]at hnH)
 have ni:H.next+2≤Hi.next:=Ni.next
 by_cases hlt:i < f.params.length
 ·have hlt':(i:Int) < f.params.length:=by omega
  have hgx:f.params[i]?=some f.params[i]:=List.getElem?_eq_getElem hlt
  obtain⟨k,hk⟩:∃ k,f.params.length - i=k+1:=⟨f.params.length - i - 1,by omega⟩
  have hk2:f.params.length - (i+1)=k:=by omega
  have hne:nmE (f.params.take (i+1)) 0 []=setV (nmE (f.params.take i) 0 []) f.params[i] (i:Int):=by
   rw[List.take_add_one,hgx]
   show nmE (f.params.take i++[f.params[i]]) 0 []=_
   rw[zfU,List.length_take,Nat.min_eq_left (by omega),Nat.zero_add]
  rw[hk]at hJ
  rw[hk2,hne]
  have hJ:prL k (i+1) { (zm ⟨2,i,[]⟩ si).2 with vars:=(zm ⟨2,i,[]⟩ si).2.vars++[(zm ⟨2,i,[]⟩ si).1] }=prL f.params.length 0 s0:=hJ
  have hFx:Fin (zm ⟨2,i,[]⟩ si).2:=hF1.le (by rw[← hJ];exact((Le.refl _).setV _).trans (ziE _ _ _).1)
  generalize f.params[i]=nm at *
  have hup:=zfJ (P:=Try.prog) (t:=81) Try.underlying81 kS Ri.n nm (i:Int)
  have mi:=Ri.m
  have R':=Ri.setNe (setV (nmE (f.params.take i) 0 []) nm (i:Int))
  have N':=Ni.setNe (.map (vEs (setV (nmE (f.params.take i) 0 []) nm (i:Int))))
  have m':=R'.m
  dsimp only[lc,Lx.nx]at mi hup m'
  repeat' (first
   | (apply Rx.nl ?_;clear hK K)|apply Ry.o ?_|apply Ry.on ?_|(apply Ry.cd (fun hb hbp=>?_) (fun hb hbp=>?_)<;>try (cases hb;done))|apply Wp.seq ?_|(apply zd fun K hK=>?_)|(apply zf 6 [(4,7),(4,9),(8,9)] fun K hK=>?_)|(apply yo 11 fun K hK=>?_)|(apply zf 12 [(4,6),(4,8),(7,8)] fun K hK=>?_)|(apply yo 16 fun K hK=>?_)|(apply zw ?_;try intro _)|(apply zx ?_ ?_<;>clear hK K)|apply WpT.step ?_|apply zo rfl ?_|apply Wp.block ?_|apply zh ?_|apply Rx.rt ?_|apply zk ?_)
  refine WpL.call rfl eVk eAk ?_;simp only[List.cons_append,List.nil_append,List.append_nil]
  refine zr.mono ?_ (zfR (X:=X.nx (setV (nmE (f.params.take i) 0 []) nm (i:Int))) hG R' (FrL.refl _ _ _ _) 2 i hFx)
  generalize hpu:zm ⟨2,i,[]⟩ si=pu at *
  have hpv:pu.2.vars.length=i:=by rw[← hpu];exact hvi
  rintro w H4 ⟨rfl,S4,lv4,R4,F4⟩
  have m4:=R4.m
  have n4:=F4.next
  obtain⟨v5,H5,a5,hv51,hv52,m5,n5,q5,R5,F5⟩:=R4.pushV pu.1 (by omega)
  have N5:=(N'.fr F4).fr F5
  have m4a:(H4.alloc (.cells [.int .i64 pu.1] 0 true)).get X.b=some (.cells (lc X pu.2 lv4 vvi) 0 true):=by rw[za,if_neg (by have:=R4.o5;dsimp only[Lx.nx]at this;omega)];exact m4
  have n5':Hi.next≤H5.next:=by simp only[ze]at n4;omega
  have hlen5:(pu.2.vars++[pu.1]).length=i+1:=by rw[List.length_append,hpv];rfl
  simp only[ze]at n4
  clear hpv hvi R' N' R4 F4 hpu mi
  dsimp only[lc,Lx.nx]at m4 m5 m4a R5 N5
  dsimp only[zA]
  repeat' (first
   | (apply Rx.nl ?_;clear hK K)|apply Rx.o ?_|apply Rx.on ?_|apply Wp.seq ?_|(apply zd fun K hK=>?_)|(apply zf 6 [(4,7),(4,9),(8,9)] fun K hK=>?_)|(apply yo 11 fun K hK=>?_)|(apply zf 12 [(4,6),(4,8),(7,8)] fun K hK=>?_)|(apply yo 16 fun K hK=>?_)|(apply zw ?_;try intro _)|(apply zx ?_ ?_<;>clear hK K)|apply WpT.step ?_|apply zo rfl ?_|apply Wp.block ?_|apply zh ?_|apply Rx.rt ?_|apply zk ?_)
  ·exact eK
  ·refine⟨by omega,eL,eL,eN,(by simp only[sB,Nat.reduceBEq, *];exact zT (n:=f.params.length) (by omega) (by omega)),?_⟩
   exact⟨_,S4,lv4,v5,hJ,hlen5,R5,N5⟩
 ·have hlt':¬ (i:Int) < f.params.length:=by omega
  have hk:f.params.length - i=0:=by omega
  have hti:f.params.take i=f.params:=List.take_of_length_le (by omega)
  rw[hk]at hJ
  rw[hti]at Ri
  have hJ:si=prL f.params.length 0 s0:=hJ
  rw[hJ]at Ri
  have hii:i=f.params.length:=by omega
  rw[← hJ]at hst
  rw[hJ]at hst
  have gi:=(gA Ni).1
  clear hk hti hJ hvi hii
  repeat' (first
   | (apply Rx.nl ?_;clear hK K)|apply Ry.o ?_|apply Ry.on ?_|(apply Ry.cd (fun hb hbp=>?_) (fun hb hbp=>?_)<;>try (cases hb;done))|apply Wp.seq ?_|(apply zd fun K hK=>?_)|(apply zf 6 [(4,7),(4,9),(8,9)] fun K hK=>?_)|(apply yo 11 fun K hK=>?_)|(apply zf 12 [(4,6),(4,8),(7,8)] fun K hK=>?_)|(apply yo 16 fun K hK=>?_)|(apply zw ?_;try intro _)|(apply zx ?_ ?_<;>clear hK K)|apply WpT.step ?_|apply zo rfl ?_|apply Wp.block ?_|apply zh ?_|apply Rx.rt ?_|apply zk ?_)
  generalize hs1:prL f.params.length 0 s0=s1 at *
  refine yd [0,3,4,43,44] [] 45 f.locals.length (fun j E Hj=>∃ sj Sj lvj vvj,loL (f.locals.length - j) sj=loL f.locals.length s1∧sj.vars.length=f.params.length+j∧RepL (X.nx (nmE (f.params++f.locals.take j) 0 [])) Hj Sj sj lvj vvj∧FrN X ((H.alloc (.cells f.cells 0 true)).alloc (.cells [.str [],.int .i64 0,.nilS,.int .i64 0,.int .i64 0] 0 true)) Sj vvj Hj) eE ⟨s1,Si,lvi,vvi,rfl,hv1,by rw[List.take_zero,List.append_nil];exact Ri,Ni⟩ ?_
  clear Ri Ni gi
  rintro j E3 Hj hj hcE hrH hnH hsI ⟨sj,Sj,lvj,vvj,hJ,hvj,Rj,Nj⟩
  (try simp only[zi,zl,and_true,sB,sO,Nat.reduceBEq,Nat.reduceAdd,Nat.reduceLeDiff,tyF, *]at hcE)
  (try simp only[zi,zl,and_true,sB,sO,Nat.reduceBEq,Nat.reduceAdd,Nat.reduceLeDiff,tyF, *]at hrH)
  (try simp only[zb,ze,zH,Nat.zero_add,Nat.reduceAdd]at hnH)
  have nj:H.next+2≤Hj.next:=Nj.next
  by_cases hlt:j < f.locals.length
  ·have hlt':(j:Int) < f.locals.length:=by omega
   have hgx:f.locals[j]?=some f.locals[j]:=List.getElem?_eq_getElem hlt
   obtain⟨k,hk⟩:∃ k,f.locals.length - j=k+1:=⟨f.locals.length - j - 1,by omega⟩
   have hk2:f.locals.length - (j+1)=k:=by omega
   have hne:nmE (f.params++f.locals.take (j+1)) 0 []=setV (nmE (f.params++f.locals.take j) 0 []) f.locals[j] ((f.params.length+j:Nat):Int):=by
    rw[List.take_add_one,hgx]
    show nmE (f.params++(f.locals.take j++[f.locals[j]])) 0 []=_
    rw[← List.append_assoc,zfU,List.length_append,List.length_take,Nat.min_eq_left (by omega),Nat.zero_add]
   rw[hk]at hJ
   rw[hk2,hne]
   have hJ:loL k { (zm ⟨1,0,[]⟩ sj).2 with vars:=(zm ⟨1,0,[]⟩ sj).2.vars++[(zm ⟨1,0,[]⟩ sj).1] }=loL f.locals.length s1:=hJ
   have hFx:Fin (zm ⟨1,0,[]⟩ sj).2:=hFst.le (by rw[hst,← hJ];exact((Le.refl _).setV _).trans (ziF _ _).1)
   generalize f.locals[j]=nm at *
   have hup:=zfJ (P:=Try.prog) (t:=81) Try.underlying81 kS Rj.n nm ((f.params.length+j:Nat):Int)
   have hlen:=Rj.vars.n.len'
   rw[hvj]at hlen
   have mj:=Rj.m
   have R':=Rj.setNe (setV (nmE (f.params++f.locals.take j) 0 []) nm ((f.params.length+j:Nat):Int))
   have N':=Nj.setNe (.map (vEs (setV (nmE (f.params++f.locals.take j) 0 []) nm ((f.params.length+j:Nat):Int))))
   have m':=R'.m
   dsimp only[lc,Lx.nx]at mj hup m'
   repeat' (first
    | (apply Rx.nl ?_;clear hK K)|apply Ry.o ?_|apply Ry.on ?_|(apply Ry.cd (fun hb hbp=>?_) (fun hb hbp=>?_)<;>try (cases hb;done))|apply Wp.seq ?_|(apply zd fun K hK=>?_)|(apply zf 6 [(4,7),(4,9),(8,9)] fun K hK=>?_)|(apply yo 11 fun K hK=>?_)|(apply zf 12 [(4,6),(4,8),(7,8)] fun K hK=>?_)|(apply yo 16 fun K hK=>?_)|(apply zw ?_;try intro _)|(apply zx ?_ ?_<;>clear hK K)|apply WpT.step ?_|apply zo rfl ?_|apply Wp.block ?_|apply zh ?_|apply Rx.rt ?_|apply zk ?_)
   ·refine WpL.call rfl eVk eAk ?_;simp only[List.cons_append,List.nil_append,List.append_nil]
    refine zr.mono ?_ (zc1 (X:=X.nx (setV (nmE (f.params++f.locals.take j) 0 []) nm ((f.params.length+j:Nat):Int))) hG R' (FrL.refl _ _ _ _) 0 hFx)
    generalize hpu:zm ⟨1,0,[]⟩ sj=pu at *
    have hpv:pu.2.vars.length=f.params.length+j:=by rw[← hpu];exact hvj
    rintro w H4 ⟨rfl,S4,lv4,R4,F4⟩
    have m4:=R4.m
    have n4:=F4.next
    obtain⟨v5,H5,a5,hv51,hv52,m5,n5,q5,R5,F5⟩:=R4.pushV pu.1 (by omega)
    have N5:=(N'.fr F4).fr F5
    have m4a:(H4.alloc (.cells [.int .i64 pu.1] 0 true)).get X.b=some (.cells (lc X pu.2 lv4 vvj) 0 true):=by rw[za,if_neg (by have:=R4.o5;dsimp only[Lx.nx]at this;omega)];exact m4
    have n5':Hj.next≤H5.next:=by simp only[ze]at n4;omega
    have hlen5:(pu.2.vars++[pu.1]).length=f.params.length+(j+1):=by rw[List.length_append,hpv];rfl
    simp only[ze]at n4
    clear hpv hvj R' N' R4 F4 hpu mj hlen
    dsimp only[lc,Lx.nx]at m4 m5 m4a R5 N5
    dsimp only[zA]
    repeat' (first
     | (apply Rx.nl ?_;clear hK K)|apply Rx.o ?_|apply Rx.on ?_|apply Wp.seq ?_|(apply zd fun K hK=>?_)|(apply zf 6 [(4,7),(4,9),(8,9)] fun K hK=>?_)|(apply yo 11 fun K hK=>?_)|(apply zf 12 [(4,6),(4,8),(7,8)] fun K hK=>?_)|(apply yo 16 fun K hK=>?_)|(apply zw ?_;try intro _)|(apply zx ?_ ?_<;>clear hK K)|apply WpT.step ?_|apply zo rfl ?_|apply Wp.block ?_|apply zh ?_|apply Rx.rt ?_|apply zk ?_)
    ·exact eK
    ·refine⟨by omega,eL,eL,eN,(by simp only[sB,Nat.reduceBEq, *];exact zT (n:=f.locals.length) (by omega) (by omega)),?_⟩
     exact⟨_,S4,lv4,v5,hJ,hlen5,R5,N5⟩
  ·have hlt':¬ (j:Int) < f.locals.length:=by omega
   have hk:f.locals.length - j=0:=by omega
   have htj:f.locals.take j=f.locals:=List.take_of_length_le (by omega)
   rw[hk]at hJ
   rw[htj]at Rj
   have hJ:sj=loL f.locals.length s1:=hJ
   rw[hJ,← hst]at Rj
   have gj:=(gA Nj).1
   clear hk htj hJ hvj
   repeat' (first
    | (apply Rx.nl ?_;clear hK K)|apply Ry.o ?_|apply Ry.on ?_|(apply Ry.cd (fun hb hbp=>?_) (fun hb hbp=>?_)<;>try (cases hb;done))|apply Wp.seq ?_|(apply zd fun K hK=>?_)|(apply zf 6 [(4,7),(4,9),(8,9)] fun K hK=>?_)|(apply yo 11 fun K hK=>?_)|(apply zf 12 [(4,6),(4,8),(7,8)] fun K hK=>?_)|(apply yo 16 fun K hK=>?_)|(apply zw ?_;try intro _)|(apply zx ?_ ?_<;>clear hK K)|apply WpT.step ?_|apply zo rfl ?_|apply Wp.block ?_|apply zh ?_|apply Rx.rt ?_|apply zk ?_)
   refine WpL.call rfl eVk eAk ?_;simp only[List.cons_append,List.nil_append,List.append_nil]
   refine zr.mono ?_ (zlH (X:=X.nx (nmE (f.params++f.locals) 0 [])) hG hX (n+1) n (Nat.lt_succ_self n) f.body (j6 f) s h1 hFs (by omega) hvst Rj)
   rintro w H6 ⟨S6,lv6,vv6,R6,F6⟩
   have N6:=Nj.fr F6
   have g6:=(gA N6).1
   clear Rj Nj F6 gj
   dsimp only[zA]
   repeat' (first
    | (apply Rx.nl ?_;clear hK K)|apply Rx.o ?_|apply Rx.on ?_|apply Wp.seq ?_|(apply zd fun K hK=>?_)|(apply zf 6 [(4,7),(4,9),(8,9)] fun K hK=>?_)|(apply yo 11 fun K hK=>?_)|(apply zf 12 [(4,6),(4,8),(7,8)] fun K hK=>?_)|(apply yo 16 fun K hK=>?_)|(apply zw ?_;try intro _)|(apply zx ?_ ?_<;>clear hK K)|apply WpT.step ?_|apply zo rfl ?_|apply Wp.block ?_|apply zh ?_|apply Rx.rt ?_|apply zk ?_)
   refine WpL.call rfl eVk eAk ?_;simp only[List.cons_append,List.nil_append,List.append_nil]
   refine zr.mono ?_ (zaM (X:=X.nx (nmE (f.params++f.locals) 0 [])) hG hX n f.value s v h2 hF R6 (FrL.refl _ _ _ _))
   rintro w H7 ⟨rfl,S7,lv7,R7,F7⟩
   have N7:=N6.fr F7
   obtain⟨g7,g7r⟩:=gA N7
   have m7:=R7.m
   have nd7:=R7.nodes
   obtain⟨ho1,ho2⟩:=nd7.one
   have n7:H.next+2≤H7.next:=N7.next
   have bGr:yj Try.prog 28 [(0,.str f.name),(1,.int .i64 f.params.length),(2,lv7),(3,.int .i64 v.1),(4,.int .i64 v.2.state)]=some (.agg [.str f.name,.int .i64 f.params.length,lv7,.int .i64 v.1,.int .i64 v.2.state]):=by
    rcases nd7 with ⟨rfl,_⟩|⟨q,im,rows,rfl,_⟩<;>kernel_rfl
   have key:∀ k,k < H.next→k≠X.b→k≠X.rt→k≠X.rn→(H7.set (H.next+1) (.cells [.str f.name,.int .i64 f.params.length,lv7,.int .i64 v.1,.int .i64 v.2.state] 0 true)).get k=H.get k:=fun k a b c d=>by
    rw[Hp.get_set,if_neg (by omega),N7.get k (by simp only[zb];omega) b c d,za,if_neg (by simp only[zb];omega),za,if_neg (by omega)]
   have fin:zra X H ⟨f.name,f.params.length,v.2.l,v.1,v.2.state⟩ (.agg [.str f.name,.int .i64 f.params.length,lv7,.int .i64 v.1,.int .i64 v.2.state]) (H7.set (H.next+1) (.cells [.str f.name,.int .i64 f.params.length,lv7,.int .i64 v.1,.int .i64 v.2.state] 0 true)):=
    ⟨S7,lv7,rfl,nd7.keep (fun _ _ h=>h) (Nat.le_refl _) fun k hk _=>by rw[Hp.get_set,if_neg (by have:=N7.sub k hk;simp only[zb]at this;omega)],by simp only[ze];omega,fun k hk=>by have:=N7.sub k hk;simp only[zb]at this;omega,key⟩
   dsimp only[lc,Lx.nx]at m7
   clear key nd7 R6 R7 N6 N7 F7 g6
   dsimp only[zA]
   repeat' (first
    | (apply Rx.nl ?_;clear hK K)|apply Rx.o ?_|apply Rx.on ?_|apply Wp.seq ?_|(apply zd fun K hK=>?_)|(apply zf 6 [(4,7),(4,9),(8,9)] fun K hK=>?_)|(apply yo 11 fun K hK=>?_)|(apply zf 12 [(4,6),(4,8),(7,8)] fun K hK=>?_)|(apply yo 16 fun K hK=>?_)|(apply zw ?_;try intro _)|(apply zx ?_ ?_<;>clear hK K)|apply WpT.step ?_|apply zo rfl ?_|apply Wp.block ?_|apply zh ?_|apply Rx.rt ?_|apply zk ?_)
   have ag:yL 5 [.str f.name,.int .i64 f.params.length,lv7,.int .i64 v.1,.int .i64 v.2.state]=some (.agg [.str f.name,.int .i64 f.params.length,lv7,.int .i64 v.1,.int .i64 v.2.state]):=rfl
   refine⟨eI,_,(by(try simp only[sB,sO,Nat.reduceBEq,Nat.reduceAdd,Nat.reduceLeDiff,tyF,zQ,yb,ag, *]);first|done|with_reducible rfl),?_⟩;try simp only[zp]
   exact fin
end Go.Proofs.Ytpbcimfiofmoeaa
namespace Go.Proofs.Ytpbcimfiofmoeaa
set_option maxRecDepth 20000
set_option maxRecDepth 20000
open Go Go.Ab
namespace tyW4a
def tyF:=And.intro @tq3 (And.intro @tq9 (And.intro @za9 (And.intro @zba (And.intro @zau (And.intro @zbw (@tq2))))))
end tyW4a
open tyW4a
noncomputable def code78:{ c:SC // slim 28 (Try.f78.body.getD .skip)=c }:=by
 refine⟨?_,?_⟩
 rotate_left
 ·simp only[Try.f78,Option.getD_some,slim,zZ,zS,z6,z7,Nat.blt,Nat.ble]
  rfl
noncomputable def code72:{ c:SC // slim 39 (Try.f72.body.getD .skip)=c }:=by
 refine⟨?_,?_⟩
 rotate_left
 ·simp only[Try.f72,Option.getD_some,slim,zZ,zS,z6,z7,Nat.blt,Nat.ble]
  rfl
def zgq (cfg:Cfg) (base:Nat) (I:Hp→Prop) (g:FuncId) (cap:List AV) (q:Ex→Int→Bool):Prop:=
 ∀ (x:Ex) (d:Int) (H:Hp),x.sz < 2 ^ 60→base≤H.next→I H→zr Try.prog cfg g (.agg x.cells::.int .i64 d::cap) H fun v H'=>v=.bool (q x d)∧FrB base H H'∧I H'
def zgW (base:Nat) (I:Hp→Prop):Prop:=∀ H H',I H→Low base H H'→I H'
theorem za8 {cfg:Cfg} (hw:Plain cfg 78) {base:Nat}{I:Hp→Prop} (hI:zgW base I) {g:FuncId}{cap:List AV}{q:Ex→Int→Bool} (hq:zgq cfg base I g cap q) :
 ∀ (n:Nat) (x:Ex),x.sz < n→∀ (d:Int) (H:Hp),x.sz < 2 ^ 60→base≤H.next→I H→zr Try.prog cfg 78 [.agg x.cells,.int .i64 d,.clo g cap] H fun v H'=>v=.bool (zcd q x d)∧FrB base H H'∧I H'
 | 0,x,hx,_,_,_,_,_=>by omega
 | n+1,x,hx,d,H,hz,hbase,hi=>by
   refine zj (M:=28) (rs:=[.tmp 6]) (hw.call _) hw.ice hw.froz Try.func78 rfl rfl code78.2 rfl ?_;dsimp only[code78,zO,Nat.reduceAdd]
   repeat' (first
    | (apply Rx.nl ?_;clear hK K)|apply Rx.o ?_|apply Rx.on ?_|(apply Rx.cd (fun hb hbp=>?_) (fun hb hbp=>?_)<;>try (cases hb;done))|apply Wp.seq ?_|(apply zd fun K hK=>?_)|apply Wp.block ?_|apply zh ?_|apply Rx.rt ?_|apply zk ?_)
   refine WpL.call rfl eVk eAk ?_;simp only[List.cons_append,List.nil_append,List.append_nil]
   have hH1:FrB base H (H.alloc (.cells x.cells 0 true)):=(FrB.refl _ _).alloc _
   refine zr.mono ?_ (hq x d (H.alloc (.cells x.cells 0 true)) hz (by simp only[zb];omega) (hI _ _ hi ((Low.refl _ _).alloc hbase _)))
   rintro v H1 ⟨rfl,hf1,hi1⟩
   have hg1:H1.get H.next=some (.cells x.cells 0 true):=by
    rw[hf1.get _ hbase (by simp[zb]),za,if_pos rfl]
   have hn1:H.next < H1.next:=by have:=hf1.next;simp only[zb]at this;omega
   dsimp only[zA]
   repeat' (first
    | (apply Rx.nl ?_;clear hK K)|apply Rx.o ?_|apply Rx.on ?_|(apply Rx.cd (fun hb hbp=>?_) (fun hb hbp=>?_)<;>try (cases hb;done))|apply Wp.seq ?_|(apply zd fun K hK=>?_)|apply Wp.block ?_|apply zh ?_|apply Rx.rt ?_|apply zk ?_)
   ·all_goals (refine⟨eI,_,eR,?_⟩;try simp only[zp])
    refine⟨?_,hH1.trans hf1,hi1⟩
    rw[zib]
    simp_all
   have hl:x.kids.length < 2 ^ 60:=by have:=j7 x.kids;have:=x.sz_eq;omega
   refine zaq (fun i E H2=>jM q x.kids (w64 (d+1))=jM q (x.kids.drop i) (w64 (d+1))∧E.at 1=.int .i64 d∧E.at 2=.clo g cap∧E.at 15=.lst (x.kids.map Ex.cells)∧E.at 16=.int .i64 x.kids.length∧E.at 17=.int .i64 i∧FrB base H H2∧I H2) x.kids.length ?_ ?_
   ·rintro i E H2 hi2 ⟨hc,h1,h2,h15,h16,h17,hf2,hI2⟩
    repeat' (first
     | (apply Rx.nl ?_;clear hK K)|apply Rx.o ?_|apply Rx.on ?_|(apply Rx.cd (fun hb hbp=>?_) (fun hb hbp=>?_)<;>try (cases hb;done))|apply Wp.seq ?_|(apply zd fun K hK=>?_)|apply Wp.block ?_|apply zh ?_|apply Rx.rt ?_|apply zk ?_)
    ·have hlt:i < x.kids.length:=by simpa using hb
     have hgx:x.kids[i]?=some x.kids[i]:=List.getElem?_eq_getElem hlt
     repeat' (first
      | (apply Rx.nl ?_;clear hK K)|apply Rx.o ?_|apply Rx.on ?_|(apply Rx.cd (fun hb hbp=>?_) (fun hb hbp=>?_)<;>try (cases hb;done))|apply Wp.seq ?_|(apply zd fun K hK=>?_)|apply Wp.block ?_|apply zh ?_|apply Rx.rt ?_|apply zk ?_)
     have hxm:x.kids[i]∈x.kids:=List.getElem_mem hlt
     have hsm:=jQ hxm
     have hsx:=x.sz_eq
     have hf3:FrB base H2 ((H2.alloc (.cells [.int .i64 0,.int .i64 0,.str [],.int .i64 0,.nilS] 0 true)).set H2.next (.cells x.kids[i].cells 0 true)):=((FrB.refl _ _).alloc _).set (.inl (Nat.le_refl _)) _
     have hb2:base≤H2.next:=Nat.le_trans hbase (hf2.next)
     have hlow:Low base H2 ((H2.alloc (.cells [.int .i64 0,.int .i64 0,.str [],.int .i64 0,.nilS] 0 true)).set H2.next (.cells x.kids[i].cells 0 true)):=((Low.refl _ _).alloc hb2 _).set hb2 _
     refine WpL.call rfl eVk eAk ?_;simp only[List.cons_append,List.nil_append,List.append_nil]
     refine zr.mono ?_ (za8 hw hI hq n x.kids[i] (by omega) _ _ (by omega) (by simp only[zb,ze];omega) (hI _ _ hI2 hlow))
     rintro v H3 ⟨rfl,hf4,hI3⟩
     dsimp only[zA]
     repeat' (first
      | (apply Rx.nl ?_;clear hK K)|apply Rx.o ?_|apply Rx.on ?_|(apply Rx.cd (fun hb hbp=>?_) (fun hb hbp=>?_)<;>try (cases hb;done))|apply Wp.seq ?_|(apply zd fun K hK=>?_)|apply Wp.block ?_|apply zh ?_|apply Rx.rt ?_|apply zk ?_)
     ·all_goals (refine⟨eI,_,eR,?_⟩;try simp only[zp])
      refine⟨?_,(hf2.trans hf3).trans hf4,hI3⟩
      rw[zib,hc,zcw q hlt]
      simp_all
     ·refine⟨hlt,?_,eE,eE,eE,eE,?_,(hf2.trans hf3).trans hf4,hI3⟩
      ·rw[hc,zcw q hlt];simp_all
      ·simp only[at_set,Nat.reduceBEq,cond_true,z9 (show i < 2 ^ 62 by omega)]
    ·have hi3:i=x.kids.length:=by simp at hb;omega
     all_goals (refine⟨eI,_,eR,?_⟩;try simp only[zp])
     refine⟨?_,hf2,hI2⟩
     rw[zib,hc,hi3]
     simp_all[jM]
   ·exact⟨rfl,eE,eE,eE,eE,eE,hH1.trans hf1,hi1⟩
end Go.Proofs.Ytpbcimfiofmoeaa
namespace Go.Proofs.Ytpbcimfiofmoeaa
set_option maxRecDepth 20000
set_option maxRecDepth 20000
open Go Go.Ab
namespace tyW4b
def tyF:=And.intro @tq3 (And.intro @tq9 (And.intro @za9 (And.intro @zba (And.intro @zau (@zbw)))))
end tyW4b
open tyW4b
def ziG {σ:Type} (cfg:Cfg) (base:Nat) (I:σ→Hp→Prop) (g:FuncId) (cap:List AV) (q:St→Int→σ→Bool×σ):Prop:=
 ∀ (x:St) (d:Int) (s:σ) (H:Hp),x.sz < 2 ^ 60→base≤H.next→I s H→zr Try.prog cfg g (.agg x.cells::.int .i64 d::cap) H fun v H'=>v=.bool (q x d s).1∧FrB base H H'∧I (q x d s).2 H'
theorem zax {cfg:Cfg} (hw:Plain cfg 72) {σ:Type}{base:Nat}{I:σ→Hp→Prop} (hI:∀ s,zgW base (I s)) {g:FuncId}{cap:List AV}{q:St→Int→σ→Bool×σ} (hq:ziG cfg base I g cap q) :
 ∀ (n:Nat) (l:List St),zu l < n→∀ (d:Int) (s:σ) (H:Hp),zu l < 2 ^ 60→base≤H.next→I s H→zr Try.prog cfg 72 [.lst (l.map St.cells),.int .i64 d,.clo g cap] H fun v H'=>v=.bool (yT q l d s).1∧FrB base H H'∧I (yT q l d s).2 H'
 | 0,l,hx,_,_,_,_,_,_=>by omega
 | n+1,l,hx,d,s,H,hz,hbase,hi=>by
   refine zj (M:=39) (rs:=[.tmp 6]) (hw.call _) hw.ice hw.froz Try.func72 rfl rfl code72.2 rfl ?_;dsimp only[code72,zO,Nat.reduceAdd]
   repeat' (first
    | (apply Rx.nl ?_;clear hK K)|apply Rx.o ?_|apply Rx.on ?_|(apply Rx.gd (fun hg hgp=>?_) (fun hg hgp=>?_)<;>try (cases hg;done))|(apply Rx.cd (fun hb hbp=>?_) (fun hb hbp=>?_)<;>try (cases hb;done))|apply Wp.seq ?_|(apply zd fun K hK=>?_)|apply Wp.block ?_|apply zh ?_|apply Rx.rt ?_|apply zk ?_)
   have hl:l.length < 2 ^ 60:=by have:=j8 l;omega
   refine zaq (fun i E H2=>∃ s2,yT q l d s=yT q (l.drop i) d s2∧E.at 1=.int .i64 d∧E.at 2=.clo g cap∧E.at 9=.lst (l.map St.cells)∧E.at 10=.int .i64 l.length∧E.at 11=.int .i64 i∧FrB base H H2∧I s2 H2) l.length ?_ ?_
   ·rintro i E H2 hi2 ⟨s2,hc,h1,h2,h9,h10,h11,hf2,hI2⟩
    repeat' (first
     | (apply Rx.nl ?_;clear hK K)|apply Rx.o ?_|apply Rx.on ?_|(apply Rx.gd (fun hg hgp=>?_) (fun hg hgp=>?_)<;>try (cases hg;done))|(apply Rx.cd (fun hb hbp=>?_) (fun hb hbp=>?_)<;>try (cases hb;done))|apply Wp.seq ?_|(apply zd fun K hK=>?_)|apply Wp.block ?_|apply zh ?_|apply Rx.rt ?_|apply zk ?_)
    ·have hlt:i < l.length:=by simpa using hb
     have hgx:l[i]?=some l[i]:=List.getElem?_eq_getElem hlt
     repeat' (first
      | (apply Rx.nl ?_;clear hK K)|apply Rx.o ?_|apply Rx.on ?_|(apply Rx.gd (fun hg hgp=>?_) (fun hg hgp=>?_)<;>try (cases hg;done))|(apply Rx.cd (fun hb hbp=>?_) (fun hb hbp=>?_)<;>try (cases hb;done))|apply Wp.seq ?_|(apply zd fun K hK=>?_)|apply Wp.block ?_|apply zh ?_|apply Rx.rt ?_|apply zk ?_)
     have hxm:l[i]∈l:=List.getElem_mem hlt
     have hsm:=jv hxm
     have hsx:=l[i].sz_eq
     generalize hx0:l[i]=x at *
     have hb2:base≤H2.next:=Nat.le_trans hbase hf2.next
     generalize hH3:(H2.alloc _).set H2.next _=H3
     have hf3:FrB base H2 H3:=by rw[← hH3];exact((FrB.refl _ _).alloc _).set (.inl (Nat.le_refl _)) _
     have hlow:Low base H2 H3:=by rw[← hH3];exact((Low.refl _ _).alloc hb2 _).set hb2 _
     have hn3:H2.next < H3.next:=by rw[← hH3];simp only[zb,ze];omega
     have hg3:H3.get H2.next=some (.cells x.cells 0 true):=by rw[← hH3,Hp.get_set,if_pos rfl]
     have hI3:=hI _ _ _ hI2 hlow
     have hwd:=zmG q hlt d s2
     rw[hx0,zqw]at hwd
     rw[hwd]at hc
     refine WpL.call rfl eVk eAk ?_;simp only[List.cons_append,List.nil_append,List.append_nil]
     refine zr.mono ?_ (hq x d s2 H3 (by omega) (by omega) hI3)
     rintro v H4 ⟨rfl,hf4,hI4⟩
     generalize hq1:q x d s2=r1 at *
     obtain⟨ok1,s3⟩:=r1
     have hg4:H4.get H2.next=some (.cells x.cells 0 true):=by rw[hf4.get _ hb2 hn3];exact hg3
     have hn4:H2.next < H4.next:=Nat.lt_of_lt_of_le hn3 hf4.next
     dsimp only[zA]
     cases ok1 with
     | false=>
       repeat' (first
        | (apply Rx.nl ?_;clear hK K)|apply Rx.o ?_|apply Rx.on ?_|(apply Rx.gd (fun hg hgp=>?_) (fun hg hgp=>?_)<;>try (cases hg;done))|(apply Rx.cd (fun hb hbp=>?_) (fun hb hbp=>?_)<;>try (cases hb;done))|apply Wp.seq ?_|(apply zd fun K hK=>?_)|apply Wp.block ?_|apply zh ?_|apply Rx.rt ?_|apply zk ?_)
       all_goals (refine⟨eI,_,eR,?_⟩;try simp only[zp])
       dsimp only at hc
       rw[hc]
       exact⟨rfl,(hf2.trans hf3).trans hf4,hI4⟩
     | true=>
       repeat' (first
        | (apply Rx.nl ?_;clear hK K)|apply Rx.o ?_|apply Rx.on ?_|(apply Rx.gd (fun hg hgp=>?_) (fun hg hgp=>?_)<;>try (cases hg;done))|(apply Rx.cd (fun hb hbp=>?_) (fun hb hbp=>?_)<;>try (cases hb;done))|apply Wp.seq ?_|(apply zd fun K hK=>?_)|apply Wp.block ?_|apply zh ?_|apply Rx.rt ?_|apply zk ?_)
       refine WpL.call rfl eVk eAk ?_;simp only[List.cons_append,List.nil_append,List.append_nil]
       have hrec:=zax hw hI hq n x.thn (by omega) (w64 (d+1)) s3 H4 (by omega) (by omega) hI4
       refine zr.mono ?_ hrec
       rintro v H5 ⟨rfl,hf5,hI5⟩
       generalize hq2:yT q x.thn (w64 (d+1)) s3=r2 at *
       obtain⟨ok2,s4⟩:=r2
       have hg5:H5.get H2.next=some (.cells x.cells 0 true):=by rw[hf5.get _ hb2 hn4];exact hg4
       have hn5:H2.next < H5.next:=Nat.lt_of_lt_of_le hn4 hf5.next
       dsimp only[zA]
       cases ok2 with
       | false=>
         repeat' (first
          | (apply Rx.nl ?_;clear hK K)|apply Rx.o ?_|apply Rx.on ?_|(apply Rx.gd (fun hg hgp=>?_) (fun hg hgp=>?_)<;>try (cases hg;done))|(apply Rx.cd (fun hb hbp=>?_) (fun hb hbp=>?_)<;>try (cases hb;done))|apply Wp.seq ?_|(apply zd fun K hK=>?_)|apply Wp.block ?_|apply zh ?_|apply Rx.rt ?_|apply zk ?_)
         all_goals (refine⟨eI,_,eR,?_⟩;try simp only[zp])
         simp only[hq2]at hc
         rw[hc]
         exact⟨rfl,((hf2.trans hf3).trans hf4).trans hf5,hI5⟩
       | true=>
         repeat' (first
          | (apply Rx.nl ?_;clear hK K)|apply Rx.o ?_|apply Rx.on ?_|(apply Rx.gd (fun hg hgp=>?_) (fun hg hgp=>?_)<;>try (cases hg;done))|(apply Rx.cd (fun hb hbp=>?_) (fun hb hbp=>?_)<;>try (cases hb;done))|apply Wp.seq ?_|(apply zd fun K hK=>?_)|apply Wp.block ?_|apply zh ?_|apply Rx.rt ?_|apply zk ?_)
         refine WpL.call rfl eVk eAk ?_;simp only[List.cons_append,List.nil_append,List.append_nil]
         have hrec2:=zax hw hI hq n x.els (by omega) (w64 (d+1)) s4 H5 (by omega) (by omega) hI5
         refine zr.mono ?_ hrec2
         rintro v H6 ⟨rfl,hf6,hI6⟩
         generalize hq3:yT q x.els (w64 (d+1)) s4=r3 at *
         obtain⟨ok3,s5⟩:=r3
         dsimp only[zA]
         have hf7:FrB base H H6:=(((hf2.trans hf3).trans hf4).trans hf5).trans hf6
         cases ok3 with
         | false=>
           repeat' (first
            | (apply Rx.nl ?_;clear hK K)|apply Rx.o ?_|apply Rx.on ?_|(apply Rx.gd (fun hg hgp=>?_) (fun hg hgp=>?_)<;>try (cases hg;done))|(apply Rx.cd (fun hb hbp=>?_) (fun hb hbp=>?_)<;>try (cases hb;done))|apply Wp.seq ?_|(apply zd fun K hK=>?_)|apply Wp.block ?_|apply zh ?_|apply Rx.rt ?_|apply zk ?_)
           all_goals (refine⟨eI,_,eR,?_⟩;try simp only[zp])
           simp only[hq2,hq3]at hc
           rw[hc]
           exact⟨rfl,hf7,hI6⟩
         | true=>
           repeat' (first
            | (apply Rx.nl ?_;clear hK K)|apply Rx.o ?_|apply Rx.on ?_|(apply Rx.gd (fun hg hgp=>?_) (fun hg hgp=>?_)<;>try (cases hg;done))|(apply Rx.cd (fun hb hbp=>?_) (fun hb hbp=>?_)<;>try (cases hb;done))|apply Wp.seq ?_|(apply zd fun K hK=>?_)|apply Wp.block ?_|apply zh ?_|apply Rx.rt ?_|apply zk ?_)
           refine⟨hlt,s5,?_,eE,eE,eE,eE,?_,hf7,hI6⟩
           ·simp only[hq2,hq3]at hc;exact hc
           ·simp only[at_set,Nat.reduceBEq,cond_true,z9 (show i < 2 ^ 62 by omega)]
    ·have hi3:i=l.length:=by simp at hb;omega
     all_goals (refine⟨eI,_,eR,?_⟩;try simp only[zp])
     rw[hc,hi3]
     simp only[List.drop_length,yT]
     exact⟨trivial,hf2,hI2⟩
   ·exact⟨s,rfl,eE,eE,eE,eE,eE,FrB.refl _ _,hi⟩
end Go.Proofs.Ytpbcimfiofmoeaa
namespace Go.Proofs.Ytpbcimfiofmoeaa
set_option maxRecDepth 20000
set_option maxRecDepth 20000
open Go Go.Ab
namespace tyW4c
def tyF:=And.intro @tq3 (And.intro @tq9 (And.intro @za9 (And.intro @zba (And.intro @zau (And.intro @zbw (And.intro @tq2 (And.intro @zcc (And.intro @zfA (@tq133)))))))))
end tyW4c
open tyW4c
noncomputable def code73:{ c:SC // slim 24 (Try.f73.body.getD .skip)=c }:=by
 refine⟨?_,?_⟩
 rotate_left
 ·simp only[Try.f73,Option.getD_some,slim,zZ,zS,z6,z7,Nat.blt,Nat.ble]
  rfl
noncomputable def code75:{ c:SC // slim 7 (Try.f75.body.getD .skip)=c }:=by
 refine⟨?_,?_⟩
 rotate_left
 ·simp only[Try.f75,Option.getD_some,slim,zZ,zS,z6,z7,Nat.blt,Nat.ble]
  rfl
noncomputable def zuT:{ c:SC // slim 32 (Try.f111.body.getD .skip)=c }:=by
 refine⟨?_,?_⟩
 rotate_left
 ·simp only[Try.f111,Option.getD_some,slim,zZ,zS,z6,z7,Nat.blt,Nat.ble]
  rfl
noncomputable def code74:{ c:SC // slim 15 (Try.f74.body.getD .skip)=c }:=by
 refine⟨?_,?_⟩
 rotate_left
 ·simp only[Try.f74,Option.getD_some,slim,zZ,zS,z6,z7,Nat.blt,Nat.ble]
  rfl
theorem zuU {cfg:Cfg} (hw:Plain cfg 73) {base rn rl:Nat} (hn:rn < base) (hl:rl < base) (hne:rn≠rl) (Hb:Hp) :
 ziG cfg base (fun (s:Int×Int) H=>H.get rn=some (.cells [.int .i64 s.1] 0 true)∧H.get rl=some (.cells [.int .i64 s.2] 0 true)∧∀ r,r < base→r≠rn→r≠rl→H.get r=Hb.get r) 73 [.ptr rn 0,.ptr rl 0] zgf:=by
 intro x d s H hz hbase ⟨hi1,hi2,hi3⟩
 have e1:(rn == H.next)=false:=by simp;omega
 have e2:(rl == H.next)=false:=by simp;omega
 have e3:(rl == rn)=false:=by simp;omega
 have e4:(rn == rl)=false:=by simp;omega
 have e5:(H.next == rn)=false:=by simp;omega
 have e6:(H.next == rl)=false:=by simp;omega
 refine zj (M:=24) (rs:=[.tmp 6]) (hw.call _) hw.ice hw.froz Try.func73 rfl rfl code73.2 rfl ?_;dsimp only[code73,zO,Nat.reduceAdd]
 repeat' (first
  | (apply Rx.nl ?_;clear hK K)|apply Rx.o ?_|apply Rx.on ?_|(apply Rx.gd (fun hg hgp=>?_) (fun hg hgp=>?_)<;>try (cases hg;done))|(apply Rx.cd (fun hb hbp=>?_) (fun hb hbp=>?_)<;>try (cases hb;done))|apply Wp.seq ?_|(apply zd fun K hK=>?_)|apply zh ?_|apply Rx.rt ?_)
 all_goals (refine⟨eI,_,eR,?_⟩;try simp only[zp])
 all_goals (refine⟨?_,?_,?_,?_,?_⟩)
 all_goals first
  | (intro r q1 q2 q3;simp only[Hp.get_set,za,q2,q3,show ¬ r=H.next by omega,if_false];exact hi3 r q1 q2 q3)
  | exact(((FrB.refl _ _).alloc _).set (.inr hn) _).set (.inr hl) _
  | exact((FrB.refl _ _).alloc _).set (.inr hn) _
  | (simp only[get_set,get_alloc,zgf, *,cond_true,cond_false,beq_self_eq_true,Bool.false_and,Bool.and_false,Bool.true_and,Bool.and_true,if_true,if_false];done)
  | (simp_all[zgf,get_set,get_alloc];done)
  | skip
theorem zuV {cfg:Cfg} (hw:Plain cfg 75) {base:Nat}{I:Hp→Prop} (hI:zgW base I):zgq cfg base I 75 [] zj4:=by
 intro x d H hz hbase hi
 refine zj (M:=7) (rs:=[.tmp 4]) (hw.call _) hw.ice hw.froz Try.func75 rfl rfl code75.2 rfl ?_;dsimp only[code75,zO,Nat.reduceAdd]
 repeat' (first
  | (apply Rx.nl ?_;clear hK K)|apply Rx.o ?_|apply Wp.seq ?_|(apply zd fun K hK=>?_)|apply Rx.rt ?_)
 all_goals (refine⟨eI,_,eR,?_⟩;try simp only[zp])
 exact⟨rfl,(FrB.refl _ _).alloc _,hI _ _ hi ((Low.refl _ _).alloc hbase _)⟩
theorem zuW {cfg:Cfg} (hw:Plain cfg 111) (hwe:Plain cfg 78) {base base':Nat} (hbb:base≤base') {I:Hp→Prop} (hI:zgW base I) {g:FuncId}{cap:List AV}{q:Ex→Int→Bool} (hq:zgq cfg base I g cap q)
 {r3:Nat} (hr1:base≤r3) (hr2:r3 < base') (H1:Hp) :
 ziG cfg base' (fun (_:Unit) H=>I H∧H.get r3=some (.cells [.clo g cap] 0 true)∧∀ r,base≤r→r < base'→H.get r=H1.get r) 111 [.ptr r3 0] (zg5 q):=by
 intro x d s H hz hbase ⟨hi,hi3,hi1⟩
 have hsz:=x.sz_eq
 have e1:(r3 == H.next)=false:=by simp;omega
 have e2:(H.next == r3)=false:=by simp;omega
 refine zj (M:=32) (rs:=[.tmp 5]) (hw.call _) hw.ice hw.froz Try.func111 rfl rfl zuT.2 rfl ?_;dsimp only[zuT,zO,Nat.reduceAdd]
 repeat' (first
  | (apply Rx.nl ?_;clear hK K)|apply Rx.o ?_|apply Rx.on ?_|(apply Rx.gd (fun hg hgp=>?_) (fun hg hgp=>?_)<;>try (cases hg;done))|(apply Rx.cd (fun hb hbp=>?_) (fun hb hbp=>?_)<;>try (cases hb;done))|apply Wp.seq ?_|(apply zd fun K hK=>?_)|apply Wp.block ?_|apply zh ?_|apply Rx.rt ?_|apply zk ?_)
 have hIa:=hI _ _ hi ((Low.refl base H).alloc (Nat.le_trans hbb hbase) (.cells x.cells 0 true))
 refine WpL.call rfl eVk eAk ?_;simp only[List.cons_append,List.nil_append,List.append_nil]
 refine zr.mono ?_ (za8 hwe hI hq (x.at_.sz+1) x.at_ (by omega) 0 _ (by omega) (by simp only[zb];omega) hIa)
 rintro v H2 ⟨rfl,hf2,hi2⟩
 have hn2:H.next < H2.next:=by have:=hf2.next;simp only[zb]at this;omega
 have hg2:H2.get H.next=some (.cells x.cells 0 true):=by rw[hf2.get _ (by omega) (by simp[zb]),za,if_pos rfl]
 have hr3:H2.get r3=some (.cells [.clo g cap] 0 true):=by rw[hf2.get _ hr1 (by simp only[zb];omega),za,if_neg (by omega)];exact hi3
 have hF2:FrB base H H2:=((FrB.refl _ _).alloc _).trans hf2
 have hold2:∀ r,base≤r→r < base'→H2.get r=H1.get r:=fun r h1 h2=>by rw[hF2.get r h1 (by omega)];exact hi1 r h1 h2
 dsimp only[zA]
 repeat' (first
  | (apply Rx.nl ?_;clear hK K)|apply Rx.o ?_|apply Rx.on ?_|(apply Rx.gd (fun hg hgp=>?_) (fun hg hgp=>?_)<;>try (cases hg;done))|(apply Rx.cd (fun hb hbp=>?_) (fun hb hbp=>?_)<;>try (cases hb;done))|apply Wp.seq ?_|(apply zd fun K hK=>?_)|apply Wp.block ?_|apply zh ?_|apply Rx.rt ?_|apply zk ?_)
 ·refine WpL.call rfl eVk eAk ?_;simp only[List.cons_append,List.nil_append,List.append_nil]
  refine zr.mono ?_ (za8 hwe hI hq (x.value.sz+1) x.value (by omega) 0 _ (by omega) (by omega) hi2)
  rintro v H3 ⟨rfl,hf3,hi3'⟩
  have hn3:H.next < H3.next:=Nat.lt_of_lt_of_le hn2 hf3.next
  have hg3:H3.get H.next=some (.cells x.cells 0 true):=by rw[hf3.get _ (by omega) hn2];exact hg2
  have hr3b:H3.get r3=some (.cells [.clo g cap] 0 true):=by rw[hf3.get _ hr1 (by omega)];exact hr3
  have hF3:FrB base H H3:=hF2.trans hf3
  have hold3:∀ r,base≤r→r < base'→H3.get r=H1.get r:=fun r h1 h2=>by rw[hf3.get r h1 (by omega)];exact hold2 r h1 h2
  dsimp only[zA]
  repeat' (first
   | (apply Rx.nl ?_;clear hK K)|apply Rx.o ?_|apply Rx.on ?_|(apply Rx.gd (fun hg hgp=>?_) (fun hg hgp=>?_)<;>try (cases hg;done))|(apply Rx.cd (fun hb hbp=>?_) (fun hb hbp=>?_)<;>try (cases hb;done))|apply Wp.seq ?_|(apply zd fun K hK=>?_)|apply Wp.block ?_|apply zh ?_|apply Rx.rt ?_|apply zk ?_)
  ·all_goals (refine⟨eI,_,eR,?_⟩;try simp only[zp])
   exact⟨by simp_all[zg5],hF3.weak hbb,hi3',hr3b,hold3⟩
  have hl:x.args.length < 2 ^ 60:=by have:=j7 x.args;omega
  refine zaq (fun i E H2=>jM q x.args 0=jM q (x.args.drop i) 0∧E.at 2=.ptr r3 0∧E.at 21=.lst (x.args.map Ex.cells)∧E.at 22=.int .i64 x.args.length∧E.at 23=.int .i64 i∧FrB base H H2∧I H2∧H2.get r3=some (.cells [.clo g cap] 0 true)∧(∀ r,base≤r→r < base'→H2.get r=H1.get r)) x.args.length ?_ ?_
  ·rintro i E H4 hi2 ⟨hc,h2,h21,h22,h23,hf4,hI4,hr4,hold4⟩
   have hn4:=hf4.next
   have e3:(r3 == H4.next)=false:=by simp;omega
   repeat' (first
    | (apply Rx.nl ?_;clear hK K)|apply Rx.o ?_|apply Rx.on ?_|(apply Rx.gd (fun hg hgp=>?_) (fun hg hgp=>?_)<;>try (cases hg;done))|(apply Rx.cd (fun hb hbp=>?_) (fun hb hbp=>?_)<;>try (cases hb;done))|apply Wp.seq ?_|(apply zd fun K hK=>?_)|apply Wp.block ?_|apply zh ?_|apply Rx.rt ?_|apply zk ?_)
   ·have hlt:i < x.args.length:=by simpa using hb
    have hgx:x.args[i]?=some x.args[i]:=List.getElem?_eq_getElem hlt
    repeat' (first
     | (apply Rx.nl ?_;clear hK K)|apply Rx.o ?_|apply Rx.on ?_|(apply Rx.gd (fun hg hgp=>?_) (fun hg hgp=>?_)<;>try (cases hg;done))|(apply Rx.cd (fun hb hbp=>?_) (fun hb hbp=>?_)<;>try (cases hb;done))|apply Wp.seq ?_|(apply zd fun K hK=>?_)|apply Wp.block ?_|apply zh ?_|apply Rx.rt ?_|apply zk ?_)
    have hxm:x.args[i]∈x.args:=List.getElem_mem hlt
    have hsm:=jQ hxm
    have hb4:base≤H4.next:=by omega
    generalize hH5:(H4.alloc _).set H4.next _=H5
    have hf5:FrB base H4 H5:=by rw[← hH5];exact((FrB.refl _ _).alloc _).set (.inl (Nat.le_refl _)) _
    have hlow5:Low base H4 H5:=by rw[← hH5];exact((Low.refl _ _).alloc hb4 _).set hb4 _
    have hn5:H4.next < H5.next:=by rw[← hH5];simp only[zb,ze];omega
    refine WpL.call rfl eVk eAk ?_;simp only[List.cons_append,List.nil_append,List.append_nil]
    refine zr.mono ?_ (za8 hwe hI hq (x.args[i].sz+1) x.args[i] (by omega) 0 _ (by omega) (by omega) (hI _ _ hI4 hlow5))
    rintro v H6 ⟨rfl,hf6,hi6⟩
    have hF6:FrB base H4 H6:=hf5.trans hf6
    have hr6:H6.get r3=some (.cells [.clo g cap] 0 true):=by rw[hF6.get _ hr1 (by omega)];exact hr4
    have hold6:∀ r,base≤r→r < base'→H6.get r=H1.get r:=fun r h1 h2=>by rw[hF6.get r h1 (by omega)];exact hold4 r h1 h2
    dsimp only[zA]
    repeat' (first
     | (apply Rx.nl ?_;clear hK K)|apply Rx.o ?_|apply Rx.on ?_|(apply Rx.gd (fun hg hgp=>?_) (fun hg hgp=>?_)<;>try (cases hg;done))|(apply Rx.cd (fun hb hbp=>?_) (fun hb hbp=>?_)<;>try (cases hb;done))|apply Wp.seq ?_|(apply zd fun K hK=>?_)|apply Wp.block ?_|apply zh ?_|apply Rx.rt ?_|apply zk ?_)
    ·all_goals (refine⟨eI,_,eR,?_⟩;try simp only[zp])
     refine⟨?_,(hf4.trans hF6).weak hbb,hi6,hr6,hold6⟩
     have:=zcw q hlt 0
     simp_all[zg5]
    ·refine⟨hlt,?_,eE,eE,eE,?_,hf4.trans hF6,hi6,hr6,hold6⟩
     ·rw[hc,zcw q hlt];simp_all
     ·simp only[at_set,Nat.reduceBEq,cond_true,z9 (show i < 2 ^ 62 by omega)]
   ·have hi3:i=x.args.length:=by simp at hb;omega
    all_goals (refine⟨eI,_,eR,?_⟩;try simp only[zp])
    refine⟨?_,hf4.weak hbb,hI4,hr4,hold4⟩
    rw[hi3]at hc
    simp_all[zg5,jM]
  ·exact⟨rfl,eE,eE,eE,eE,hF3,hi3',hr3b,hold3⟩
 ·all_goals (refine⟨eI,_,eR,?_⟩;try simp only[zp])
  exact⟨by simp_all[zg5],hF2.weak hbb,hi2,hr3,hold2⟩
end Go.Proofs.Ytpbcimfiofmoeaa
namespace Go.Proofs.Ytpbcimfiofmoeaa
set_option maxRecDepth 20000
set_option maxRecDepth 20000
open Go Go.Ab
namespace tyW4d
def tyF:=And.intro @tq2 (And.intro @tq3 (And.intro @tq9 (And.intro @zcc (And.intro @za9 (And.intro @zba (And.intro @zau (And.intro @zfA (And.intro @zbw (@tq133)))))))))
end tyW4d
open tyW4d
structure Plains (cfg:Cfg):Prop where
 we:Plain cfg 78
 ws:Plain cfg 72
 wx:Plain cfg 74
 wx1:Plain cfg 111
theorem zfV {cfg:Cfg} (hp:Plains cfg) {base:Nat}{I:Hp→Prop} (hI:zgW base I) {g:FuncId}{cap:List AV}{q:Ex→Int→Bool} (hq:zgq cfg base I g cap q) (x:Fu) (H:Hp) (hz:x.sz < 2 ^ 60) (hbase:base≤H.next) (hi:I H) :
 zr Try.prog cfg 74 [.agg x.cells,.clo g cap] H fun v H'=>v=.bool (zbM q x)∧FrB base H H'∧I H':=by
 have hw:=hp.wx
 have hsz:x.sz=1+x.name.length+jd x.params+jd x.locals+zu x.body+x.value.sz:=rfl
 refine zj (M:=15) (rs:=[.tmp 4]) (hw.call _) hw.ice hw.froz Try.func74 rfl rfl code74.2 rfl ?_;dsimp only[code74,zO,Nat.reduceAdd]
 repeat' (first
  | (apply Rx.nl ?_;clear hK K)|apply Rx.o ?_|(apply Rx.gd (fun hg hgp=>?_) (fun hg hgp=>?_)<;>try (cases hg;done))|apply Wp.seq ?_|(apply zd fun K hK=>?_)|apply Rx.rt ?_)
 generalize hH1:(H.alloc (.cells x.cells 0 true)).alloc (.cells [.clo g cap] 0 true)=H1
 have hf1:FrB base H H1:=by rw[← hH1];exact((FrB.refl _ _).alloc _).alloc _
 have hl1:Low base H H1:=by rw[← hH1];exact((Low.refl _ _).alloc hbase _).alloc (by simp only[zb];omega) _
 have hn1:H1.next=H.next+2:=by rw[← hH1];rfl
 have hga:H1.get H.next=some (.cells x.cells 0 true):=by rw[← hH1,za,if_neg (by simp[zb]),za,if_pos rfl]
 have hgb:H1.get (H.next+1)=some (.cells [.clo g cap] 0 true):=by rw[← hH1,za,if_pos (by simp[zb])]
 refine WpL.call rfl eVk eAk ?_;simp only[List.cons_append,List.nil_append,List.append_nil]
 refine zr.mono ?_ (za8 hp.we hI hq (x.value.sz+1) x.value (by omega) 0 H1 (by omega) (by omega) (hI _ _ hi hl1))
 rintro v H2 ⟨rfl,hf2,hi2⟩
 have hn2:=hf2.next
 have hga2:H2.get H.next=some (.cells x.cells 0 true):=by rw[hf2.get _ hbase (by omega)];exact hga
 have hgb2:H2.get (H.next+1)=some (.cells [.clo g cap] 0 true):=by rw[hf2.get _ (by omega) (by omega)];exact hgb
 dsimp only[zA]
 repeat' (first
  | (apply Rx.nl ?_;clear hK K)|apply Rx.o ?_|(apply Rx.gd (fun hg hgp=>?_) (fun hg hgp=>?_)<;>try (cases hg;done))|apply Wp.seq ?_|(apply zd fun K hK=>?_)|apply Rx.rt ?_)
 ·refine WpL.call rfl eVk eAk ?_;simp only[List.cons_append,List.nil_append,List.append_nil]
  refine zr.mono ?_ (zax hp.ws (base:=H.next+2) (I:=fun (_:Unit) H'=>I H'∧H'.get (H.next+1)=some (.cells [.clo g cap] 0 true)∧∀ r,base≤r→r < H.next+2→H'.get r=H2.get r) ?_ (zuW hp.wx1 hp.we (by omega) hI hq (by omega) (by omega) H2) (zu x.body+1) x.body (by omega) 0 () H2 (by omega) (by omega) ⟨hi2,hgb2,fun _ _ _=>rfl⟩)
  ·rintro v H3 ⟨rfl,hf3,hi3,hg3,hold⟩
   have hF3:FrB base H2 H3:=⟨hf3.next,fun r h1 h2=>by
    by_cases hr:r < H.next+2
    ·exact hold r h1 hr
    ·exact hf3.get r (by omega) h2⟩
   dsimp only[zA]
   repeat' (first
    | (apply Rx.nl ?_;clear hK K)|apply Rx.o ?_|(apply Rx.gd (fun hg hgp=>?_) (fun hg hgp=>?_)<;>try (cases hg;done))|apply Wp.seq ?_|(apply zd fun K hK=>?_)|apply Rx.rt ?_)
   all_goals (refine⟨eI,_,eR,?_⟩;try simp only[zp])
   exact⟨by simp_all[zbM],(hf1.trans hf2).trans hF3,hi3⟩
  ·intro _ Ha Hb ⟨h1,h2,h3⟩ hlow
   exact⟨hI _ _ h1 (hlow.weak (by omega)),by rw[hlow _ (by omega)];exact h2,fun r q1 q2=>by rw[hlow _ q2];exact h3 r q1 q2⟩
 ·all_goals (refine⟨eI,_,eR,?_⟩;try simp only[zp])
  exact⟨by simp_all[zbM],hf1.trans hf2,hi2⟩
end Go.Proofs.Ytpbcimfiofmoeaa
namespace Go.Proofs.Ytpbcimfiofmoeaa
set_option maxRecDepth 20000
set_option maxRecDepth 20000
open Go Go.Ab
namespace tyP4f
def tyF:=And.intro @tq3 (And.intro @tq9 (And.intro @zcc (And.intro @zp8 (And.intro @zqv (And.intro @tq2 (And.intro @zba (And.intro @zau (And.intro @zmE (And.intro @za9 (And.intro @zbw (@zgd)))))))))))
end tyP4f
open tyP4f
noncomputable def code83:{ c:SC // slim 26 (Try.f83.body.getD .skip)=c }:=by
 refine⟨?_,?_⟩
 rotate_left
 ·simp only[Try.f83,Option.getD_some,slim,zZ,zS,z6,z7,Nat.blt,Nat.ble]
  rfl
noncomputable def code84:{ c:SC // slim 27 (Try.f84.body.getD .skip)=c }:=by
 refine⟨?_,?_⟩
 rotate_left
 ·simp only[Try.f84,Option.getD_some,slim,zZ,zS,z6,z7,Nat.blt,Nat.ble]
  rfl
noncomputable def code85:{ c:SC // slim 49 (Try.f85.body.getD .skip)=c }:=by
 refine⟨?_,?_⟩
 rotate_left
 ·simp only[Try.f85,Option.getD_some,slim,zZ,zS,z6,z7,Nat.blt,Nat.ble]
  rfl
theorem zpm (l:List (List UInt8)) (a s:List UInt8):yz (zlx l a) s=(yz l s||yz [a] s):=by
 unfold zlx
 split
 ·rename_i h
  rw[zaK]
  by_cases e:s=a
  ·rw[e,h];rfl
  ·rw[decide_eq_false e,Bool.or_false]
 ·rw[yU]
theorem zrb {cfg:Cfg} (hw:Plain cfg 83) {H:Hp}{r imm:Nat}{x:List (List (List UInt8))} (hg:H.get r=some (.cells (x.map je) imm true)) (hr:r < H.next) (hx:rwOk x) :
 zr Try.prog cfg 83 [.sl r 0 x.length 1] H fun v H'=>v=.map H.next∧(∃ l,H'.get H.next=some (.map (bEs l))∧∀ s,yz l s=yz x.flatten s)∧(∀ k,k < H.next→H'.get k=H.get k)∧H.next < H'.next:=by
 obtain⟨hx1,hx2⟩:=hx
 have hnm:=zk8
 refine zj (M:=26) (rs:=[.tmp 2]) (hw.call _) hw.ice hw.froz Try.func83 rfl rfl code83.2 rfl ?_;dsimp only[code83,zO,Nat.reduceAdd]
 repeat' (first
  | (apply Rx.nl ?_;clear hK K)|apply Rx.o ?_|apply Rx.on ?_|(apply Rx.cd (fun hb hbp=>?_) (fun hb hbp=>?_)<;>try (cases hb;done))|apply Wp.seq ?_|(apply zd fun K hK=>?_)|apply Wp.block ?_|apply zh ?_|apply Rx.rt ?_|apply zk ?_)
 refine yd [2,3,9,10] [] 11 x.length (fun i E H2=>(∃ l,H2.get H.next=some (.map (bEs l))∧∀ s,yz l s=yz (x.take i).flatten s)∧∀ k,k < H.next→H2.get k=H.get k) eE ⟨⟨[],by rw[za,if_pos (by rfl)];rfl,fun s=>rfl⟩,fun k hk=>by rw[za,if_neg (by omega)]⟩ ?_
 rintro i E H2 hi hcE hrH hnH hsI ⟨⟨l,hm,hl⟩,hold⟩
 (try simp only[zi,zl,and_true,sB,sO,Nat.reduceBEq,Nat.reduceAdd,Nat.reduceLeDiff,tyF, *]at hcE)
 (try simp only[zi,zl,and_true,sB,sO,Nat.reduceBEq,Nat.reduceAdd,Nat.reduceLeDiff,tyF, *]at hrH)
 (try simp only[zb,ze,zH,Nat.zero_add,Nat.reduceAdd]at hnH)
 repeat' (first
  | (apply Rx.nl ?_;clear hK K)|apply Rx.o ?_|apply Rx.on ?_|(apply Rx.cd (fun hb hbp=>?_) (fun hb hbp=>?_)<;>try (cases hb;done))|apply Wp.seq ?_|(apply zd fun K hK=>?_)|apply Wp.block ?_|apply zh ?_|apply Rx.rt ?_|apply zk ?_)
 ·have hlt:i < x.length:=by simpa using hb
  have hgx:x[i]?=some x[i]:=List.getElem?_eq_getElem hlt
  have hsm:=hx2 _ (List.getElem_mem hlt)
  have hg2:H2.get r=some (.cells (x.map je) imm true):=by rw[hold r hr];exact hg
  have htk:(x.take (i+1)).flatten=(x.take i).flatten++x[i]:=by rw[List.take_add_one,hgx,List.flatten_append];simp
  generalize x[i]=row at *
  repeat' (first
   | (apply Rx.nl ?_;clear hK K)|apply Ry.o ?_|apply Wp.seq ?_|(apply zd fun K hK=>?_)|apply Wp.block ?_|apply zh ?_|apply Rx.rt ?_|apply zk ?_)
  refine yd [2,3,9,10,11,15,16] [] 17 row.length (fun j E H3=>(∃ l,H3.get H.next=some (.map (bEs l))∧∀ s,yz l s=yz ((x.take i).flatten++row.take j) s)∧∀ k,k < H.next→H3.get k=H.get k) eE ⟨⟨l,hm,fun s=>by rw[hl,List.take_zero,List.append_nil]⟩,hold⟩ ?_
  clear hm hl l hold hg2
  rintro j E3 H3 hj hcE hrH hnH hsI ⟨⟨l,hm,hl⟩,hold⟩
  (try simp only[zi,zl,and_true,sB,sO,Nat.reduceBEq,Nat.reduceAdd,Nat.reduceLeDiff,tyF, *]at hcE)
  (try simp only[zi,zl,and_true,sB,sO,Nat.reduceBEq,Nat.reduceAdd,Nat.reduceLeDiff,tyF, *]at hrH)
  (try simp only[zb,ze,zH,Nat.zero_add,Nat.reduceAdd]at hnH)
  repeat' (first
   | (apply Rx.nl ?_;clear hK K)|apply Rx.o ?_|apply Rx.on ?_|(apply Rx.cd (fun hb hbp=>?_) (fun hb hbp=>?_)<;>try (cases hb;done))|apply Wp.seq ?_|(apply zd fun K hK=>?_)|apply Wp.block ?_|apply zh ?_|apply Rx.rt ?_|apply zk ?_)
  ·have hlt2:j < row.length:=by simpa using hb
   have hgx2:row[j]?=some row[j]:=List.getElem?_eq_getElem hlt2
   have hup:=zn1 hm row[j]
   have htk2:row.take (j+1)=row.take j++[row[j]]:=by rw[List.take_add_one,hgx2];rfl
   repeat' (first
    | (apply Rx.nl ?_;clear hK K)|apply Rx.o ?_|apply Rx.on ?_|(apply Rx.cd (fun hb hbp=>?_) (fun hb hbp=>?_)<;>try (cases hb;done))|apply Wp.seq ?_|(apply zd fun K hK=>?_)|apply Wp.block ?_|apply zh ?_|apply Rx.rt ?_|apply zk ?_)
   refine⟨by omega,eL,eL,eN,(by simp only[sB,Nat.reduceBEq, *];exact zT (n:=row.length) (by omega) (by omega)),?_⟩
   refine⟨⟨zlx l row[j],by rw[Hp.get_set,if_pos (by rfl)],fun s=>?_⟩,fun k hk=>by rw[Hp.get_set,if_neg (by omega)];exact hold k hk⟩
   rw[zpm,hl,htk2,← List.append_assoc,yU ((x.take i).flatten++row.take j)]
  ·have hje:j=row.length:=by simp at hb;omega
   repeat' (first
    | (apply Rx.nl ?_;clear hK K)|apply Rx.o ?_|apply Rx.on ?_|(apply Rx.cd (fun hb hbp=>?_) (fun hb hbp=>?_)<;>try (cases hb;done))|apply Wp.seq ?_|(apply zd fun K hK=>?_)|apply Wp.block ?_|apply zh ?_|apply Rx.rt ?_|apply zk ?_)
   refine⟨by omega,eL,eL,eN,(by simp only[sB,Nat.reduceBEq, *];exact zT (n:=x.length) (by omega) (by omega)),?_⟩
   exact⟨⟨l,hm,fun s=>by rw[hl,htk,hje,List.take_length]⟩,hold⟩
 ·repeat' (first
   | (apply Rx.nl ?_;clear hK K)|apply Rx.o ?_|apply Rx.on ?_|(apply Rx.cd (fun hb hbp=>?_) (fun hb hbp=>?_)<;>try (cases hb;done))|apply Wp.seq ?_|(apply zd fun K hK=>?_)|apply Wp.block ?_|apply zh ?_|apply Rx.rt ?_|apply zk ?_)
  all_goals (refine⟨eI,_,eR,?_⟩;try simp only[zp])
  have hie:i=x.length:=by simp at hb;omega
  refine⟨trivial,⟨l,hm,fun s=>by rw[hl,hie,List.take_length]⟩,hold,by omega⟩
structure Rs where
 r12:Nat
 mv:Nat
 r5:Nat
 ma:Nat
 r6:Nat
 mf:Nat
 r9:Nat
structure RsOk (X:Rs) (vs an:List (List UInt8)) (fm:List (Nm×Int)) (H:Hp):Prop where
 b12:H.get X.r12=some (.cells [.map X.mv] 0 true)
 bv:∃ l,H.get X.mv=some (.map (bEs l))∧∀ s,yz l s=yz vs s
 b5:H.get X.r5=some (.cells [.map X.ma] 0 true)
 ba:∃ l,H.get X.ma=some (.map (bEs l))∧∀ s,yz l s=yz an s
 b6:H.get X.r6=some (.cells [.map X.mf] 0 true)
 bf:H.get X.mf=some (.map (vEs fm))
structure RsLt (X:Rs) (n:Nat):Prop where
 l12:X.r12 < n
 lv:X.mv < n
 l5:X.r5 < n
 la:X.ma < n
 l6:X.r6 < n
 lf:X.mf < n
structure RsNe (X:Rs):Prop where
 l12:X.r12≠X.r9
 lv:X.mv≠X.r9
 l5:X.r5≠X.r9
 la:X.ma≠X.r9
 l6:X.r6≠X.r9
 lf:X.mf≠X.r9
theorem RsOk.keep {X:Rs}{vs an:List (List UInt8)}{fm:List (Nm×Int)}{H H':Hp} (h:RsOk X vs an fm H) (h12:H'.get X.r12=H.get X.r12) (hv:H'.get X.mv=H.get X.mv) (h5:H'.get X.r5=H.get X.r5) (ha:H'.get X.ma=H.get X.ma) (h6:H'.get X.r6=H.get X.r6) (hf:H'.get X.mf=H.get X.mf):RsOk X vs an fm H' where
 b12:=by rw[h12];exact h.b12
 bv:=by rw[hv];exact h.bv
 b5:=by rw[h5];exact h.b5
 ba:=by rw[ha];exact h.ba
 b6:=by rw[h6];exact h.b6
 bf:=by rw[hf];exact h.bf
theorem RsOk.low {X:Rs}{vs an:List (List UInt8)}{fm:List (Nm×Int)}{H H':Hp}{n:Nat} (h:RsOk X vs an fm H) (hl:RsLt X n) (k:Low n H H'):RsOk X vs an fm H':=
 h.keep (k _ hl.l12) (k _ hl.lv) (k _ hl.l5) (k _ hl.la) (k _ hl.l6) (k _ hl.lf)
theorem zuX {cfg:Cfg} (hw:Plain cfg 84) {X:Rs}{vs an:List (List UInt8)}{fm:List (Nm×Int)}{base:Nat} (hl:RsLt X base) {I:Hp→Prop} (hI:zgW base I) (hR:∀ H,I H→RsOk X vs an fm H) :
 zgq cfg base I 84 [.ptr X.r12 0,.ptr X.r5 0] fun x _=>zck vs an x:=by
 intro x d H hz hbase hi
 obtain⟨h12,⟨lv,hv1,hv2⟩,h5,⟨la,ha1,ha2⟩,h6,hf⟩:=hR H hi
 have l12:=hl.l12
 have llv:=hl.lv
 have l5:=hl.l5
 have lla:=hl.la
 have g12:(H.alloc (.cells x.cells 0 true)).get X.r12=some (.cells [.map X.mv] 0 true):=by rw[za,if_neg (by omega)];exact h12
 have g5:(H.alloc (.cells x.cells 0 true)).get X.r5=some (.cells [.map X.ma] 0 true):=by rw[za,if_neg (by omega)];exact h5
 have gv:(H.alloc (.cells x.cells 0 true)).get X.mv=some (.map (bEs lv)):=by rw[za,if_neg (by omega)];exact hv1
 have ga:(H.alloc (.cells x.cells 0 true)).get X.ma=some (.map (bEs la)):=by rw[za,if_neg (by omega)];exact ha1
 have kv:=zc0 gv x.name
 have ka:=zc0 ga x.name
 rw[hv2]at kv
 rw[ha2]at ka
 clear h12 h5 hv1 ha1 gv ga hv2 ha2 hf h6
 have e12:(X.r12 == H.next)=false:=zP (by omega)
 have e5:(X.r5 == H.next)=false:=zP (by omega)
 simp only[List.append_nil,List.cons_append,List.nil_append]
 refine zj (M:=27) (rs:=[.tmp 6]) (hw.call _) hw.ice hw.froz Try.func84 rfl rfl code84.2 rfl ?_;dsimp only[code84,zO,Nat.reduceAdd]
 repeat' (first
  | (apply Rx.nl ?_;clear hK K)|apply Rx.o ?_|apply Rx.gu ?_|(apply Rx.gd (fun hg hgp=>?_) (fun hg hgp=>?_)<;>try (cases hg;done))|apply Wp.seq ?_|(apply zd fun K hK=>?_)|apply Rx.rt ?_)
 all_goals
  all_goals (refine⟨eI,_,eR,?_⟩;try simp only[zp])
  refine⟨?_,(FrB.refl _ _).alloc _,hI _ _ hi ((Low.refl _ _).alloc hbase _)⟩
  rw[zck]
  (try simp only[Bool.not_eq_true',Bool.not_eq_false']at *);simp only[*,decide_true,decide_false,Bool.false_or,Bool.or_false,Bool.true_or,Bool.or_true,Bool.false_and,Bool.and_false,Bool.true_and,Bool.and_true,Bool.not_true,Bool.not_false,if_true,if_false,Int.reduceEq]
theorem keyS4:zam Try.prog 9=some .string:=by kernel_rfl
def wI (w:Bool):Int:=if w=true then 5 else 0
theorem zuY {cfg:Cfg} (hw:Plain cfg 85) {X:Rs}{vs an:List (List UInt8)}{fm:List (Nm×Int)}{base:Nat} (hl:RsLt X base) (h9:X.r9 < base) (hne:RsNe X) :
 ziG cfg base (fun (w:Bool) H=>RsOk X vs an fm H∧H.get X.r9=some (.cells [.int .i64 (wI w)] 0 true)) 85 [.ptr X.r12 0,.ptr X.r5 0,.ptr X.r6 0,.ptr X.r9 0] (rsS fm vs an):=by
 intro x d w H hz hbase hi
 obtain⟨hok,hw9⟩:=hi
 have hok':=hok
 obtain⟨h12,⟨lv,hv1,hv2⟩,h5,⟨la,ha1,ha2⟩,h6,hf⟩:=hok
 have l12:=hl.l12
 have llv:=hl.lv
 have l5:=hl.l5
 have lla:=hl.la
 have l6:=hl.l6
 have llf:=hl.lf
 have hlow:Low base H (H.alloc (.cells x.cells 0 true)):=(Low.refl _ _).alloc hbase _
 have g12:(H.alloc (.cells x.cells 0 true)).get X.r12=some (.cells [.map X.mv] 0 true):=by rw[hlow _ l12];exact h12
 have g5:(H.alloc (.cells x.cells 0 true)).get X.r5=some (.cells [.map X.ma] 0 true):=by rw[hlow _ l5];exact h5
 have g6:(H.alloc (.cells x.cells 0 true)).get X.r6=some (.cells [.map X.mf] 0 true):=by rw[hlow _ l6];exact h6
 have g9:(H.alloc (.cells x.cells 0 true)).get X.r9=some (.cells [.int .i64 (wI w)] 0 true):=by rw[hlow _ h9];exact hw9
 have gv:(H.alloc (.cells x.cells 0 true)).get X.mv=some (.map (bEs lv)):=by rw[hlow _ llv];exact hv1
 have ga:(H.alloc (.cells x.cells 0 true)).get X.ma=some (.map (bEs la)):=by rw[hlow _ lla];exact ha1
 have gf:(H.alloc (.cells x.cells 0 true)).get X.mf=some (.map (vEs fm)):=by rw[hlow _ llf];exact hf
 have gb:(H.alloc (.cells x.cells 0 true)).get H.next=some (.cells x.cells 0 true):=by rw[za,if_pos (by rfl)]
 have kv:=zc0 gv x.name
 have ka:=zc0 ga x.name
 have kf:=znY (P:=Try.prog) (t:=81) Try.underlying81 keyS4 (by kernel_rfl) gf x.to
 rw[hv2]at kv
 rw[ha2]at ka
 have hlen:=j7 x.args
 have hsz:=x.sz_eq
 have hok1:RsOk X vs an fm (H.alloc (.cells x.cells 0 true)):=hok'.low hl hlow
 have hx0:∀ a b,Ab.extract (.tup [a,b]) 0=some a:=fun _ _=>rfl
 have hx1:∀ a b,Ab.extract (.tup [a,b]) 1=some b:=fun _ _=>rfl
 have hfr:FrB base H (H.alloc (.cells x.cells 0 true)):=(FrB.refl _ _).alloc _
 have hfr2:FrB base H ((H.alloc (.cells x.cells 0 true)).set X.r9 (.cells [.int .i64 5] 0 true)):=hfr.set (.inr h9) _
 have hok2:RsOk X vs an fm ((H.alloc (.cells x.cells 0 true)).set X.r9 (.cells [.int .i64 5] 0 true)):=hok1.keep (by rw[Hp.get_set,if_neg hne.l12]) (by rw[Hp.get_set,if_neg hne.lv]) (by rw[Hp.get_set,if_neg hne.l5]) (by rw[Hp.get_set,if_neg hne.la]) (by rw[Hp.get_set,if_neg hne.l6]) (by rw[Hp.get_set,if_neg hne.lf])
 have hw2:((H.alloc (.cells x.cells 0 true)).set X.r9 (.cells [.int .i64 5] 0 true)).get X.r9=some (.cells [.int .i64 (wI true)] 0 true):=by rw[Hp.get_set,if_pos rfl];rfl
 have s12:((H.alloc (.cells x.cells 0 true)).set X.r9 (.cells [.int .i64 5] 0 true)).get X.r12=some (.cells [.map X.mv] 0 true):=hok2.b12
 have sb:((H.alloc (.cells x.cells 0 true)).set X.r9 (.cells [.int .i64 5] 0 true)).get H.next=some (.cells x.cells 0 true):=by rw[Hp.get_set,if_neg (by omega)];exact gb
 have sv:ji Try.prog ((H.alloc (.cells x.cells 0 true)).set X.r9 (.cells [.int .i64 5] 0 true)) 140 (.map X.mv) (.str x.name) false=some (.bool (yz vs x.name)):=by
  obtain⟨l,q1,q2⟩:=hok2.bv
  rw[zc0 q1,q2]
 clear h12 hv1 hv2 h5 ha1 ha2 h6 hf gv ga gf hok' hw9 hlow
 have e12:(X.r12 == H.next)=false:=zP (by omega)
 have e5:(X.r5 == H.next)=false:=zP (by omega)
 have e6:(X.r6 == H.next)=false:=zP (by omega)
 have e9:(X.r9 == H.next)=false:=zP (by omega)
 have d12:(X.r12 == X.r9)=false:=zP hne.l12
 have dn:(H.next == X.r9)=false:=zP (by omega)
 simp only[List.append_nil,List.cons_append,List.nil_append]
 refine zj (M:=49) (rs:=[.tmp 8]) (hw.call _) hw.ice hw.froz Try.func85 rfl rfl code85.2 rfl ?_;dsimp only[code85,zO,Nat.reduceAdd]
 repeat' (first
  | (apply Rx.nl ?_;clear hK K)|apply Rx.o ?_|apply Rx.on ?_|(apply Rx.gd (fun hg hgp=>?_) (fun hg hgp=>?_)<;>try (cases hg;done))|(apply Rx.cd (fun hb hbp=>?_) (fun hb hbp=>?_)<;>try (cases hb;done))|apply Wp.seq ?_|(apply zd fun K hK=>?_)|apply Wp.block ?_|apply zh ?_|apply Rx.rt ?_)
 all_goals
  all_goals (refine⟨eI,_,eR,?_⟩;try simp only[zp])
  first
  | refine⟨?_,hfr,hok1,?_⟩
  | refine⟨?_,hfr2,hok2,?_⟩
  all_goals
   (try rw[g9])
   (try rw[hw2])
   clear g12 g5 g6 g9 kv ka kf hx0 hx1 gb s12 sb sv hok1 hok2 hfr hfr2 hw2 e12 e5 e6 e9 d12 dn hl hne hlen hsz
   simp_all[rsS,wI]
end Go.Proofs.Ytpbcimfiofmoeaa
namespace Go.Proofs.Ytpbcimfiofmoeaa
set_option maxRecDepth 20000
set_option maxRecDepth 20000
open Go Go.Ab
namespace tyP4g
def tyF:=And.intro @tq3 (And.intro @tq9 (And.intro @zgb (And.intro @zgc (And.intro @zcj (And.intro @zmE (And.intro @zcc (And.intro @za9 (And.intro @zau (And.intro @zfA (And.intro @zbw (And.intro @zgd (And.intro @zp8 (And.intro @zqv (And.intro @bsR1 (@bsR2)))))))))))))))
end tyP4g
open tyP4g
noncomputable def code46:{ c:SC // slim 67 (Try.f46.body.getD .skip)=c }:=by
 refine⟨?_,?_⟩
 rotate_left
 ·simp only[Try.f46,Option.getD_some,slim,zZ,zS,z6,z7,Nat.blt,Nat.ble]
  rfl
noncomputable def zkk:List En:=[zmX]
theorem zpn (ρ:Nat→Int):zdC Try.prog ρ zkk:=⟨zjs ρ,trivial⟩
set_option maxRecDepth 100000 in
theorem zlI (ρ:Nat→Int) (p:Pr) (hz:p.sz < 2 ^ 36):Con Try.prog ρ 46 (prE p) (.int .i64 (zmU p)):=jX fit (pls:=pls) (zpn ρ) (.cons (.agg p.pure) .nil) (.int _ _) (by
 have hw:Plain (zK pls zkk) 46:=yJ (fun _=>rfl) rfl
 have kd:∀ H,zr Try.prog (zK pls zkk) 81 [.agg p.cells] H fun v H'=>v=.tup [je (zB p),je (jw p)]∧H'=H:=fun H=>yr (enc:=prE) (out:=fun p=>.tup [je (zB p),je (jw p)]) zcx (x:=p) rfl hz
 have hps:Plains (zK pls zkk):=⟨yJ (fun _=>rfl) rfl,yJ (fun _=>rfl) rfl,yJ (fun _=>rfl) rfl,yJ (fun _=>rfl) rfl⟩
 have hpz:p.sz=1+zak p.arrays+za2 p.funcs:=rfl
 have hla:=zaU p.arrays
 have hlf:=zbx p.funcs
 have hal:(zB p).length=p.arrays.length:=by simp[zB]
 have hfl:(jw p).length=p.funcs.length:=by simp[jw]
 have hx0:∀ a b,Ab.extract (.tup [a,b]) 0=some a:=fun _ _=>rfl
 have hx1:∀ a b,Ab.extract (.tup [a,b]) 1=some b:=fun _ _=>rfl
 have hnm:=zk8
 rw[prE]
 refine zj (M:=67) (rs:=[.tmp 2]) (hw.call _) hw.ice hw.froz Try.func46 rfl rfl code46.2 rfl ?_;dsimp only[code46,zO,Nat.reduceAdd]
 repeat' (first
  | (apply Rx.nl ?_;clear hK K)|apply Rx.o ?_|apply Rx.on ?_|(apply Rx.call ?_;first|refine zaF (kd _) ?_)|(apply Rx.gd (fun hg hgp=>?_) (fun hg hgp=>?_)<;>try (cases hg;done))|(apply Rx.cd (fun hb hbp=>?_) (fun hb hbp=>?_)<;>try (cases hb;done))|apply Wp.seq ?_|(apply zd fun K hK=>?_)|(apply yo 6 fun K hK=>?_)|apply Wp.block ?_|apply zh ?_|apply Rx.rt ?_|apply zk ?_)
 refine WpL.call rfl eVk eAk ?_;simp only[List.cons_append,List.nil_append,List.append_nil]
 refine zr.mono ?_ (zrb (x:=[zB p]) (imm:=0) (yJ (fun _=>rfl) rfl) (by rw[za,if_pos (by rfl)];rfl) (Nat.lt_succ_self _) ⟨by simp,by simp;omega⟩)
 rintro v H2 ⟨rfl,⟨la,hma,hla2⟩,hold,hlt2⟩
 simp only[zb,zH]at hma hold hlt2
 rw[show([zB p]:List (List (List UInt8))).flatten=zB p by simp]at hla2
 have g20:H2.get 0=some (.cells p.cells 0 true):=by rw[hold 0 (by omega),za,if_neg (by simp),za,if_pos (by rfl)]
 clear hold
 dsimp only[zA]
 repeat' (first
  | (apply Rx.nl ?_;clear hK K)|apply Rx.o ?_|apply Rx.on ?_|(apply Rx.gd (fun hg hgp=>?_) (fun hg hgp=>?_)<;>try (cases hg;done))|(apply Rx.cd (fun hb hbp=>?_) (fun hb hbp=>?_)<;>try (cases hb;done))|apply Wp.seq ?_|(apply zd fun K hK=>?_)|(apply yo 6 fun K hK=>?_)|apply Wp.block ?_|apply zh ?_|apply Rx.rt ?_|apply zk ?_)
 generalize hHs:Hp.set (Hp.set _ _ _) _ _=Hs
 have ns:H2.next+3≤Hs.next:=by rw[← hHs];exact Nat.le_refl _
 have gs0:Hs.get 0=some (.cells p.cells 0 true):=by rw[← hHs,Hp.get_set,if_neg (by omega),Hp.get_set,if_neg (by omega),za,if_neg (by simp only[zb];omega),za,if_neg (by simp only[zb];omega),za,if_neg (by omega)];exact g20
 have gsa:Hs.get 2=some (.map (bEs la)):=by rw[← hHs,Hp.get_set,if_neg (by omega),Hp.get_set,if_neg (by omega),za,if_neg (by simp only[zb];omega),za,if_neg (by simp only[zb];omega),za,if_neg (by omega)];exact hma
 have gs5:Hs.get (H2.next+1)=some (.cells [.map 2] 0 true):=by rw[← hHs,Hp.get_set,if_neg (by omega),Hp.get_set,if_pos (by rfl)]
 have gs6:Hs.get (H2.next+2)=some (.cells [.map H2.next] 0 true):=by rw[← hHs,Hp.get_set,if_pos (by rfl)]
 have gsf:Hs.get H2.next=some (.map (vEs [])):=by rw[← hHs,Hp.get_set,if_neg (by omega),Hp.get_set,if_neg (by omega),za,if_neg (by simp only[zb];omega),za,if_neg (by simp only[zb];omega),za,if_pos (by rfl)];rfl
 clear hHs hma
 have hlt2':3≤H2.next:=by omega
 clear hlt2
 have hE0:(0 == H2.next)=false:=zP (by omega)
 have hE2:(2 == H2.next)=false:=zP (by omega)
 refine yd [1,2,5,6,23,24] [0,2,H2.next+1,H2.next+2] 25 p.funcs.length (fun i E H=>∃ m,jE (p.funcs.drop i) m=jE p.funcs []∧H.get H2.next=some (.map (vEs m))) eE ⟨[],by simp,gsf⟩ ?_
 rintro i E H3 hi hcE hrH hnH hsI ⟨m,hJ,hm⟩
 (try simp only[zi,zl,and_true,sB,sO,Nat.reduceBEq,Nat.reduceAdd,Nat.reduceLeDiff,tyF,gs0,gsa,gs5,gs6, *]at hcE)
 (try simp only[zi,zl,and_true,sB,sO,Nat.reduceBEq,Nat.reduceAdd,Nat.reduceLeDiff,tyF,gs0,gsa,gs5,gs6, *]at hrH)
 (try simp only[zb,ze,zH,Nat.zero_add,Nat.reduceAdd]at hnH)
 have hB0:(0 == H3.next)=false:=zP (by omega)
 have hC0:(H3.next == 0)=false:=zP (by omega)
 have hB1:(2 == H3.next)=false:=zP (by omega)
 have hC1:(H3.next == 2)=false:=zP (by omega)
 have hB2:(H2.next+1 == H3.next)=false:=zP (by omega)
 have hC2:(H3.next == H2.next+1)=false:=zP (by omega)
 have hB3:(H2.next+2 == H3.next)=false:=zP (by omega)
 have hC3:(H3.next == H2.next+2)=false:=zP (by omega)
 obtain⟨h30,h3a,h35,h36⟩:=hrH
 repeat' (first
  | (apply Rx.nl ?_;clear hK K)|apply Rx.o ?_|apply Rx.on ?_|(apply Rx.gd (fun hg hgp=>?_) (fun hg hgp=>?_)<;>try (cases hg;done))|(apply Rx.cd (fun hb hbp=>?_) (fun hb hbp=>?_)<;>try (cases hb;done))|apply Wp.seq ?_|(apply zd fun K hK=>?_)|(apply yo 6 fun K hK=>?_)|apply Wp.block ?_|apply zh ?_|apply Rx.rt ?_|apply zk ?_)
 ·have hlt:i < p.funcs.length:=by simpa using hb
  have hgx:p.funcs[i]?=some p.funcs[i]:=List.getElem?_eq_getElem hlt
  have hgn:(jw p)[i]?=some p.funcs[i].name:=by rw[jw,List.getElem?_map,hgx];rfl
  have hu:=zfJ (P:=Try.prog) (t:=81) Try.underlying81 keyS4 hm p.funcs[i].name p.funcs[i].params.length
  rw[List.drop_eq_getElem_cons hlt,jE]at hJ
  repeat' (first
   | (apply Rx.nl ?_;clear hK K)|apply Rx.o ?_|apply Rx.on ?_|(apply Rx.gd (fun hg hgp=>?_) (fun hg hgp=>?_)<;>try (cases hg;done))|(apply Rx.cd (fun hb hbp=>?_) (fun hb hbp=>?_)<;>try (cases hb;done))|apply Wp.seq ?_|(apply zd fun K hK=>?_)|(apply yo 6 fun K hK=>?_)|apply Wp.block ?_|apply zh ?_|apply Rx.rt ?_|apply zk ?_)
  refine⟨by omega,eL,eL,eN,(by simp only[sB,Nat.reduceBEq, *];exact zT (n:=p.funcs.length) (by omega) (by omega)),?_⟩
  exact⟨_,hJ,by rw[Hp.get_set,if_pos rfl]⟩
 ·have hie:i=p.funcs.length:=by simp at hb;omega
  rw[hie,List.drop_length,jE]at hJ
  subst hJ
  clear hie hsI hi hb hbp
  repeat' (first
   | (apply Rx.nl ?_;clear hK K)|apply Rx.o ?_|apply Rx.on ?_|(apply Rx.gd (fun hg hgp=>?_) (fun hg hgp=>?_)<;>try (cases hg;done))|(apply Rx.cd (fun hb hbp=>?_) (fun hb hbp=>?_)<;>try (cases hb;done))|apply Wp.seq ?_|(apply zd fun K hK=>?_)|(apply yo 6 fun K hK=>?_)|apply Wp.block ?_|apply zh ?_|apply Rx.rt ?_|apply zk ?_)
  generalize hHq:Hp.set (Hp.alloc H3 _) _ _=Hq
  have nq:H3.next+1≤Hq.next:=by rw[← hHq];exact Nat.le_refl _
  have oldq:∀ k,k < H3.next→Hq.get k=H3.get k:=fun k hk=>by rw[← hHq,Hp.get_set,if_neg (by omega),za,if_neg (by omega)]
  have q9:Hq.get H3.next=some (.cells [.int .i64 (wI false)] 0 true):=by rw[← hHq,Hp.get_set,if_pos rfl];rfl
  clear hHq
  refine yd [5,6,9,41,42] [] 43 p.funcs.length (fun i E H=>∃ w,H.get H3.next=some (.cells [.int .i64 (wI w)] 0 true)∧zmU p=zds (jE p.funcs []) (zB p) (p.funcs.drop i) w∧H.get (H2.next+1)=some (.cells [.map 2] 0 true)∧(∃ l,H.get 2=some (.map (bEs l))∧∀ s,yz l s=yz (zB p) s)∧H.get (H2.next+2)=some (.cells [.map H2.next] 0 true)∧H.get H2.next=some (.map (vEs (jE p.funcs [])))) eE ⟨false,q9,rfl,by rw[oldq _ (by omega)];exact h35,⟨la,by rw[oldq _ (by omega)];exact h3a,hla2⟩,by rw[oldq _ (by omega)];exact h36,by rw[oldq _ (by omega)];exact hm⟩ ?_
  clear hm hla2 la h30 h3a h35 h36 gs0 gsa gs5 gs6 gsf q9 oldq
  rintro i E H4 hi hcE hrH hnH hsI ⟨w,g9,hJ,g5,⟨la,ga,hla⟩,g6,gf⟩
  (try simp only[zi,zl,and_true,sB,sO,Nat.reduceBEq,Nat.reduceAdd,Nat.reduceLeDiff,tyF, *]at hcE)
  (try simp only[zi,zl,and_true,sB,sO,Nat.reduceBEq,Nat.reduceAdd,Nat.reduceLeDiff,tyF, *]at hrH)
  (try simp only[zb,ze,zH,Nat.zero_add,Nat.reduceAdd]at hnH)
  repeat' (first
   | (apply Rx.nl ?_;clear hK K)|apply Rx.o ?_|apply Rx.on ?_|(apply Rx.gd (fun hg hgp=>?_) (fun hg hgp=>?_)<;>try (cases hg;done))|(apply Rx.cd (fun hb hbp=>?_) (fun hb hbp=>?_)<;>try (cases hb;done))|apply Wp.seq ?_|(apply zd fun K hK=>?_)|(apply yo 6 fun K hK=>?_)|apply Wp.block ?_|apply zh ?_|apply Rx.rt ?_|apply zk ?_)
  ·have hlt:i < p.funcs.length:=by simpa using hb
   have hgx:p.funcs[i]?=some p.funcs[i]:=List.getElem?_eq_getElem hlt
   have hsm:=zby (List.getElem_mem hlt)
   have hsz:p.funcs[i].sz=1+p.funcs[i].name.length+jd p.funcs[i].params+jd p.funcs[i].locals+zu p.funcs[i].body+p.funcs[i].value.sz:=rfl
   have hpl:=zar p.funcs[i].params
   have hll:=zar p.funcs[i].locals
   have hdr:zds (jE p.funcs []) (zB p) (p.funcs.drop i) w=if zbM (fun x _=>zck (p.funcs[i].params++p.funcs[i].locals) (zB p) x) p.funcs[i]=true∧(yT (rsS (jE p.funcs []) (p.funcs[i].params++p.funcs[i].locals) (zB p)) p.funcs[i].body 0 w).1=true then zds (jE p.funcs []) (zB p) (p.funcs.drop (i+1)) (yT (rsS (jE p.funcs []) (p.funcs[i].params++p.funcs[i].locals) (zB p)) p.funcs[i].body 0 w).2 else 3:=by rw[List.drop_eq_getElem_cons hlt];rfl
   rw[hdr]at hJ
   clear hdr
   have hfz:p.funcs[i].sz < 2 ^ 60:=by omega
   generalize p.funcs[i]=g at *
   repeat' (first
    | (apply Rx.nl ?_;clear hK K)|apply Rx.o ?_|apply Rx.on ?_|(apply Rx.gd (fun hg hgp=>?_) (fun hg hgp=>?_)<;>try (cases hg;done))|(apply Rx.cd (fun hb hbp=>?_) (fun hb hbp=>?_)<;>try (cases hb;done))|apply Wp.seq ?_|(apply zd fun K hK=>?_)|(apply yo 6 fun K hK=>?_)|apply Wp.block ?_|apply zh ?_|apply Rx.rt ?_|apply zk ?_)
   generalize hHb:Hp.alloc (Hp.set _ _ _) _=Hb
   have nb:Hb.next=H4.next+2:=by rw[← hHb];rfl
   have oldb:∀ k,k < H4.next→Hb.get k=H4.get k:=fun k hk=>by rw[← hHb,za,if_neg (by simp only[ze,zb];omega),Hp.get_set,if_neg (by omega),za,if_neg (by omega)]
   have gbr:Hb.get (H4.next+1)=some (.cells [je g.params,je g.locals] 0 true):=by rw[← hHb,za,if_pos (by rfl)]
   have gb11:Hb.get H4.next=some (.cells g.cells 0 true):=by rw[← hHb,za,if_neg (by simp only[ze,zb];omega),Hp.get_set,if_pos rfl]
   clear hHb
   refine WpL.call rfl eVk eAk ?_;simp only[List.cons_append,List.nil_append,List.append_nil]
   refine zr.mono ?_ (zrb (x:=[g.params,g.locals]) (imm:=0) (yJ (fun _=>rfl) rfl) gbr (by omega) ⟨by simp,by simp;omega⟩)
   rintro v H5 ⟨rfl,⟨lv,hmv,hlv⟩,old5,n5⟩
   rw[show([g.params,g.locals]:List (List (List UInt8))).flatten=g.params++g.locals by simp]at hlv
   have o5:∀ k,k < H4.next→H5.get k=H4.get k:=fun k hk=>by rw[old5 k (by omega),oldb k hk]
   have g511:H5.get H4.next=some (.cells g.cells 0 true):=by rw[old5 _ (by omega)];exact gb11
   have g59:H5.get H3.next=some (.cells [.int .i64 (wI w)] 0 true):=by rw[o5 _ (by omega)];exact g9
   have g55:H5.get (H2.next+1)=some (.cells [.map 2] 0 true):=by rw[o5 _ (by omega)];exact g5
   have g5a:H5.get 2=some (.map (bEs la)):=by rw[o5 _ (by omega)];exact ga
   have g56:H5.get (H2.next+2)=some (.cells [.map H2.next] 0 true):=by rw[o5 _ (by omega)];exact g6
   have g5f:H5.get H2.next=some (.map (vEs (jE p.funcs []))):=by rw[o5 _ (by omega)];exact gf
   clear o5 old5 gbr gb11 oldb g9 g5 ga g6 gf
   have e1:(H4.next == H5.next)=false:=zP (by omega)
   dsimp only[zA]
   repeat' (first
    | (apply Rx.nl ?_;clear hK K)|apply Rx.o ?_|apply Rx.on ?_|(apply Rx.gd (fun hg hgp=>?_) (fun hg hgp=>?_)<;>try (cases hg;done))|(apply Rx.cd (fun hb hbp=>?_) (fun hb hbp=>?_)<;>try (cases hb;done))|apply Wp.seq ?_|(apply zd fun K hK=>?_)|(apply yo 6 fun K hK=>?_)|apply Wp.block ?_|apply zh ?_|apply Rx.rt ?_|apply zk ?_)
   generalize hHd:Hp.set (Hp.alloc H5 _) _ _=Hd
   have nd:Hd.next=H5.next+1:=by rw[← hHd];rfl
   have oldd:∀ k,k < H5.next→Hd.get k=H5.get k:=fun k hk=>by rw[← hHd,Hp.get_set,if_neg (by omega),za,if_neg (by omega)]
   have d12:Hd.get H5.next=some (.cells [.map Hb.next] 0 true):=by rw[← hHd,Hp.get_set,if_pos rfl,nb]
   clear hHd
   have hok:RsOk ⟨H5.next,Hb.next,H2.next+1,2,H2.next+2,H2.next,H3.next⟩ (g.params++g.locals) (zB p) (jE p.funcs []) Hd:={
    b12:=d12
    bv:=⟨lv,by show Hd.get Hb.next=_;rw[oldd _ n5];exact hmv,hlv⟩
    b5:=by show Hd.get (H2.next+1)=_;rw[oldd _ (by omega)];exact g55
    ba:=⟨la,by show Hd.get 2=_;rw[oldd _ (by omega)];exact g5a,hla⟩
    b6:=by show Hd.get (H2.next+2)=_;rw[oldd _ (by omega)];exact g56
    bf:=by show Hd.get H2.next=_;rw[oldd _ (by omega)];exact g5f }
   have hd9:Hd.get H3.next=some (.cells [.int .i64 (wI w)] 0 true):=by rw[oldd _ (by omega)];exact g59
   have hd11:Hd.get H4.next=some (.cells g.cells 0 true):=by rw[oldd _ (by omega)];exact g511
   have hlX:∀ n,Hd.next≤n→RsLt ⟨H5.next,Hb.next,H2.next+1,2,H2.next+2,H2.next,H3.next⟩ n:=fun n hn=>⟨by show H5.next < n;omega,by show Hb.next < n;omega,by show H2.next+1 < n;omega,by show 2 < n;omega,by show H2.next+2 < n;omega,by show H2.next < n;omega⟩
   have hnX:RsNe ⟨H5.next,Hb.next,H2.next+1,2,H2.next+2,H2.next,H3.next⟩:=⟨by show H5.next≠H3.next;omega,by show Hb.next≠H3.next;omega,by show H2.next+1≠H3.next;omega,by show 2≠H3.next;omega,by show H2.next+2≠H3.next;omega,by show H2.next≠H3.next;omega⟩
   clear g59 g55 g5a g56 g5f d12 oldd hmv hlv hla g511
   refine WpL.call rfl eVk eAk ?_;simp only[List.cons_append,List.nil_append,List.append_nil]
   refine zr.mono ?_ (zfV hps (I:=fun H'=>Low Hd.next Hd H') (fun a b h1 h2=>h1.trans h2) (zuX (yJ (fun _=>rfl) rfl) (hlX _ (Nat.le_refl _)) (fun a b h1 h2=>h1.trans h2) fun H' h=>hok.low (hlX _ (Nat.le_refl _)) h) g Hd hfz (Nat.le_refl _) (Low.refl _ _))
   rintro v H6 ⟨rfl,hf6,hlow6⟩
   have n6:=hf6.next
   have hok6:=hok.low (hlX _ (Nat.le_refl _)) hlow6
   have h69:H6.get H3.next=some (.cells [.int .i64 (wI w)] 0 true):=by rw[hlow6 _ (by omega)];exact hd9
   have h611:H6.get H4.next=some (.cells g.cells 0 true):=by rw[hlow6 _ (by omega)];exact hd11
   clear hlow6 hf6 hok hd9 hd11
   dsimp only[zA]
   cases hwf:zbM (fun x _=>zck (g.params++g.locals) (zB p) x) g with
   | false=>
     repeat' (first
      | (apply Rx.nl ?_;clear hK K)|apply Rx.o ?_|apply Rx.on ?_|(apply Rx.gd (fun hg hgp=>?_) (fun hg hgp=>?_)<;>try (cases hg;done))|(apply Rx.cd (fun hb hbp=>?_) (fun hb hbp=>?_)<;>try (cases hb;done))|apply Wp.seq ?_|(apply zd fun K hK=>?_)|(apply yo 6 fun K hK=>?_)|apply Wp.block ?_|apply zh ?_|apply Rx.rt ?_|apply zk ?_)
     all_goals (refine⟨eI,_,eR,?_⟩;try simp only[zp])
     rw[hJ,hwf];simp
   | true=>
     rw[hwf]at hJ
     repeat' (first
      | (apply Rx.nl ?_;clear hK K)|apply Rx.o ?_|apply Rx.on ?_|(apply Rx.gd (fun hg hgp=>?_) (fun hg hgp=>?_)<;>try (cases hg;done))|(apply Rx.cd (fun hb hbp=>?_) (fun hb hbp=>?_)<;>try (cases hb;done))|apply Wp.seq ?_|(apply zd fun K hK=>?_)|(apply yo 6 fun K hK=>?_)|apply Wp.block ?_|apply zh ?_|apply Rx.rt ?_|apply zk ?_)
     refine WpL.call rfl eVk eAk ?_;simp only[List.cons_append,List.nil_append,List.append_nil]
     refine zr.mono ?_ (zax (yJ (fun _=>rfl) rfl) (base:=H6.next) (I:=fun (w:Bool) H=>RsOk ⟨H5.next,Hb.next,H2.next+1,2,H2.next+2,H2.next,H3.next⟩ (g.params++g.locals) (zB p) (jE p.funcs []) H∧H.get H3.next=some (.cells [.int .i64 (wI w)] 0 true)) (fun s a b h1 h2=>⟨h1.1.low (hlX _ n6) h2,by rw[h2 _ (by omega)];exact h1.2⟩) (zuY (yJ (fun _=>rfl) rfl) (hlX _ n6) (by show H3.next < _;omega) hnX) (zu g.body+1) g.body (by omega) 0 w H6 (by omega) (Nat.le_refl _) ⟨hok6,h69⟩)
     rintro v H7 ⟨rfl,hf7,hok7,h79⟩
     have n7:=hf7.next
     dsimp only[zA]
     repeat' (first
      | (apply Rx.nl ?_;clear hK K)|apply Rx.o ?_|apply Rx.on ?_|(apply Rx.gd (fun hg hgp=>?_) (fun hg hgp=>?_)<;>try (cases hg;done))|(apply Rx.cd (fun hb hbp=>?_) (fun hb hbp=>?_)<;>try (cases hb;done))|apply Wp.seq ?_|(apply zd fun K hK=>?_)|(apply yo 6 fun K hK=>?_)|apply Wp.block ?_|apply zh ?_|apply Rx.rt ?_|apply zk ?_)
     ·all_goals (refine⟨eI,_,eR,?_⟩;try simp only[zp])
      rw[hJ];simp_all
     ·refine⟨by omega,eL,eL,eN,(by simp only[sB,Nat.reduceBEq, *];exact zT (n:=p.funcs.length) (by omega) (by omega)),?_⟩
      refine⟨_,h79,?_,hok7.b5,hok7.ba,hok7.b6,hok7.bf⟩
      rw[hJ,if_pos ⟨rfl,by simp_all⟩]
  ·repeat' (first
    | (apply Rx.nl ?_;clear hK K)|apply Rx.o ?_|apply Rx.on ?_|(apply Rx.gd (fun hg hgp=>?_) (fun hg hgp=>?_)<;>try (cases hg;done))|(apply Rx.cd (fun hb hbp=>?_) (fun hb hbp=>?_)<;>try (cases hb;done))|apply Wp.seq ?_|(apply zd fun K hK=>?_)|(apply yo 6 fun K hK=>?_)|apply Wp.block ?_|apply zh ?_|apply Rx.rt ?_|apply zk ?_)
   all_goals (refine⟨eI,_,eR,?_⟩;try simp only[zp])
   have hie:i=p.funcs.length:=by simp at hb;omega
   rw[hJ,hie,List.drop_length,zds,wI])
end Go.Proofs.Ytpbcimfiofmoeaa
namespace Go.Proofs.Ytpbcimfiofmoeaa
set_option maxRecDepth 20000
set_option maxRecDepth 20000
open Go Go.Ab
namespace tyW4e
def tyF:=And.intro @tq3 (And.intro @tq9 (And.intro @zgb (And.intro @zgc (And.intro @zcj (And.intro @zcc (And.intro @za9 (And.intro @zau (And.intro @zfA (And.intro @zbw (@zld))))))))))
end tyW4e
open tyW4e
noncomputable def code43:{ c:SC // slim 68 (Try.f43.body.getD .skip)=c }:=by
 refine⟨?_,?_⟩
 rotate_left
 ·simp only[Try.f43,Option.getD_some,slim,zZ,zS,z6,z7,Nat.blt,Nat.ble]
  rfl
theorem zpo {cfg:Cfg} (hp:Plains cfg) (hw:Plain cfg 43) (h1w:Plain cfg 73) (h2w:Plain cfg 75) (p:Pr) (hz:p.sz < 2 ^ 60) :
 zr Try.prog cfg 43 [.agg p.cells] H0 fun v _=>v=.bool (zdX p):=by
 have hpz:p.sz=1+zak p.arrays+za2 p.funcs:=rfl
 have hla:=zaU p.arrays
 have hlf:=zbx p.funcs
 have hla2:p.arrays.length < 2 ^ 60:=by omega
 have hlf2:p.funcs.length < 2 ^ 60:=by omega
 refine zj (M:=68) (rs:=[.tmp 2]) (hw.call _) hw.ice hw.froz Try.func43 rfl rfl code43.2 rfl ?_;dsimp only[code43,zO,Nat.reduceAdd]
 repeat' (first
  | (apply Rx.nl ?_;clear hK K)|apply Rx.o ?_|apply Rx.on ?_|(apply Rx.gd (fun hg hgp=>?_) (fun hg hgp=>?_)<;>try (cases hg;done))|(apply Rx.cd (fun hb hbp=>?_) (fun hb hbp=>?_)<;>try (cases hb;done))|apply Wp.seq ?_|(apply zd fun K hK=>?_)|apply Wp.block ?_|apply zh ?_|apply Rx.rt ?_|apply zk ?_)
 ·all_goals (refine⟨eI,_,eR,?_⟩;try simp only[zp])
  simp_all[zdX];try (intros;omega)
 ·refine zaq (fun i E H=>p.arrays.all (fun a=>!decide (a.len < 1) && !decide (16 < a.len))=(p.arrays.drop i).all (fun a=>!decide (a.len < 1) && !decide (16 < a.len))∧E.at 1=.ptr 0 0∧E.at 21=.lst (p.arrays.map Ar.cells)∧E.at 22=.int .i64 p.arrays.length∧E.at 23=.int .i64 i∧0 < H.next∧H.get 0=some (.cells p.cells 0 true)) p.arrays.length ?_ ?_
  ·rintro i E H hi ⟨hc,h1,h21,h22,h23,hn,hg0⟩
   have e0:(0 == H.next)=false:=by simp;omega
   repeat' (first
    | (apply Rx.nl ?_;clear hK K)|apply Rx.o ?_|apply Rx.on ?_|(apply Rx.gd (fun hg hgp=>?_) (fun hg hgp=>?_)<;>try (cases hg;done))|(apply Rx.cd (fun hb hbp=>?_) (fun hb hbp=>?_)<;>try (cases hb;done))|apply Wp.seq ?_|(apply zd fun K hK=>?_)|apply Wp.block ?_|apply zh ?_|apply Rx.rt ?_|apply zk ?_)
   ·have hlt:i < p.arrays.length:=by simpa using hb
    have hgx:p.arrays[i]?=some p.arrays[i]:=List.getElem?_eq_getElem hlt
    have hd:(p.arrays.drop i).all (fun a=>!decide (a.len < 1) && !decide (16 < a.len))=((!decide (p.arrays[i].len < 1) && !decide (16 < p.arrays[i].len))&&(p.arrays.drop (i+1)).all (fun a=>!decide (a.len < 1) && !decide (16 < a.len))):=by rw[List.drop_eq_getElem_cons hlt,List.all_cons]
    repeat' (first
     | (apply Rx.nl ?_;clear hK K)|apply Rx.o ?_|apply Rx.on ?_|(apply Rx.gd (fun hg hgp=>?_) (fun hg hgp=>?_)<;>try (cases hg;done))|(apply Rx.cd (fun hb hbp=>?_) (fun hb hbp=>?_)<;>try (cases hb;done))|apply Wp.seq ?_|(apply zd fun K hK=>?_)|apply Wp.block ?_|apply zh ?_|apply Rx.rt ?_|apply zk ?_)
    ·all_goals (refine⟨eI,_,eR,?_⟩;try simp only[zp])
     have hfa:p.arrays.all (fun a=>!decide (a.len < 1) && !decide (16 < a.len))=false:=by rw[hc,hd];simp_all
     simp only[zdX,hfa];simp
    ·refine⟨hlt,?_,eE,eE,eE,?_,by simp only[ze,zb];omega,eF⟩
     ·rw[hc,hd];simp_all
     ·simp only[at_set,Nat.reduceBEq,cond_true,z9 (show i < 2 ^ 62 by omega)]
    ·all_goals (refine⟨eI,_,eR,?_⟩;try simp only[zp])
     have hfa:p.arrays.all (fun a=>!decide (a.len < 1) && !decide (16 < a.len))=false:=by rw[hc,hd];simp_all
     simp only[zdX,hfa];simp
   ·have hia:i=p.arrays.length:=by simp at hb;omega
    have hca:p.arrays.all (fun a=>!decide (a.len < 1) && !decide (16 < a.len))=true:=by rw[hc,hia];simp
    clear hc
    repeat' (first
     | (apply Rx.nl ?_;clear hK K)|apply Rx.o ?_|apply Rx.on ?_|(apply Rx.gd (fun hg hgp=>?_) (fun hg hgp=>?_)<;>try (cases hg;done))|(apply Rx.cd (fun hb hbp=>?_) (fun hb hbp=>?_)<;>try (cases hb;done))|apply Wp.seq ?_|(apply zd fun K hK=>?_)|apply Wp.block ?_|apply zh ?_|apply Rx.rt ?_|apply zk ?_)
    refine zaq (fun i E H=>p.funcs.all za3=(p.funcs.drop i).all za3∧E.at 37=.lst (p.funcs.map Fu.cells)∧E.at 38=.int .i64 p.funcs.length∧E.at 39=.int .i64 i∧0 < H.next) p.funcs.length ?_ ?_
    ·rintro i E H hi ⟨hc,h37,h38,h39,hn⟩
     repeat' (first
      | (apply Rx.nl ?_;clear hK K)|apply Rx.o ?_|apply Rx.on ?_|(apply Rx.gd (fun hg hgp=>?_) (fun hg hgp=>?_)<;>try (cases hg;done))|(apply Rx.cd (fun hb hbp=>?_) (fun hb hbp=>?_)<;>try (cases hb;done))|apply Wp.seq ?_|(apply zd fun K hK=>?_)|apply Wp.block ?_|apply zh ?_|apply Rx.rt ?_|apply zk ?_)
     ·have hlt:i < p.funcs.length:=by simpa using hb
      have hgx:p.funcs[i]?=some p.funcs[i]:=List.getElem?_eq_getElem hlt
      have hd:(p.funcs.drop i).all za3=(za3 p.funcs[i]&&(p.funcs.drop (i+1)).all za3):=by rw[List.drop_eq_getElem_cons hlt,List.all_cons]
      have hxm:=zby (List.getElem_mem hlt)
      generalize hx0:p.funcs[i]=x at *
      have hsx:x.sz=1+x.name.length+jd x.params+jd x.locals+zu x.body+x.value.sz:=rfl
      repeat' (first
       | (apply Rx.nl ?_;clear hK K)|apply Rx.o ?_|apply Rx.on ?_|(apply Rx.gd (fun hg hgp=>?_) (fun hg hgp=>?_)<;>try (cases hg;done))|(apply Rx.cd (fun hb hbp=>?_) (fun hb hbp=>?_)<;>try (cases hb;done))|apply Wp.seq ?_|(apply zd fun K hK=>?_)|apply Wp.block ?_|apply zh ?_|apply Rx.rt ?_|apply zk ?_)
      ·generalize hH5:Hp.set _ (H.next+2) _=H5
       have hn5:H5.next=H.next+3:=by rw[← hH5];rfl
       have hg5a:H5.get H.next=some (.cells x.cells 0 true):=by rw[← hH5];simp only[get_set,get_alloc,zb,ze,nb1,nb2,nb3,Nat.add_assoc,Nat.reduceAdd,beq_self_eq_true,cond_true,cond_false,Nat.reduceBEq]
       have hg5b:H5.get (H.next+1)=some (.cells [.int .i64 0] 0 true):=by rw[← hH5];simp only[get_set,get_alloc,zb,ze,nb1,nb2,nb3,Nat.add_assoc,Nat.reduceAdd,beq_self_eq_true,cond_true,cond_false,Nat.reduceBEq]
       have hg5c:H5.get (H.next+2)=some (.cells [.int .i64 0] 0 true):=by rw[← hH5];simp only[get_set,get_alloc,zb,ze,nb1,nb2,nb3,Nat.add_assoc,Nat.reduceAdd,beq_self_eq_true,cond_true,cond_false,Nat.reduceBEq]
       refine WpL.call rfl eVk eAk ?_;simp only[List.cons_append,List.nil_append,List.append_nil]
       refine zr.mono ?_ (zax hp.ws (base:=H.next+3) (fun s Ha Hb h hlow=>⟨by rw[hlow _ (by omega)];exact h.1,by rw[hlow _ (by omega)];exact h.2.1,fun r q1 q2 q3=>by rw[hlow r q1];exact h.2.2 r q1 q2 q3⟩) (zuU h1w (base:=H.next+3) (rn:=H.next+1) (rl:=H.next+2) (by omega) (by omega) (by omega) H5) (zu x.body+1) x.body (by omega) 0 (0,0) H5 (by omega) (by omega) ⟨hg5b,hg5c,fun _ _ _ _=>rfl⟩)
       rintro v H6 ⟨rfl,hf6,hi6⟩
       have hn6:=hf6.next
       have hg6:H6.get H.next=some (.cells x.cells 0 true):=by rw[hi6.2.2 _ (by omega) (by omega) (by omega)];exact hg5a
       dsimp only[zA]
       repeat' (first
        | (apply Rx.nl ?_;clear hK K)|apply Rx.o ?_|apply Rx.on ?_|(apply Rx.gd (fun hg hgp=>?_) (fun hg hgp=>?_)<;>try (cases hg;done))|(apply Rx.cd (fun hb hbp=>?_) (fun hb hbp=>?_)<;>try (cases hb;done))|apply Wp.seq ?_|(apply zd fun K hK=>?_)|apply Wp.block ?_|apply zh ?_|apply Rx.rt ?_|apply zk ?_)
       ·refine WpL.call rfl eVk eAk ?_;simp only[List.cons_append,List.nil_append,List.append_nil]
        refine zr.mono ?_ (zfV hp (base:=0) (I:=fun _=>True) (fun _ _ _ _=>trivial) (zuV h2w (fun _ _ _ _=>trivial)) x H6 (by omega) (by omega) trivial)
        rintro v H7 ⟨rfl,hf7,_⟩
        have hn7:=hf7.next
        dsimp only[zA]
        repeat' (first
         | (apply Rx.nl ?_;clear hK K)|apply Rx.o ?_|apply Rx.on ?_|(apply Rx.gd (fun hg hgp=>?_) (fun hg hgp=>?_)<;>try (cases hg;done))|(apply Rx.cd (fun hb hbp=>?_) (fun hb hbp=>?_)<;>try (cases hb;done))|apply Wp.seq ?_|(apply zd fun K hK=>?_)|apply Wp.block ?_|apply zh ?_|apply Rx.rt ?_|apply zk ?_)
        ·all_goals (refine⟨eI,_,eR,?_⟩;try simp only[zp])
         have hff:p.funcs.all za3=false:=by rw[hc,hd];simp_all[za3]
         simp only[zdX,hff];simp
        ·refine⟨hlt,?_,eE,eE,?_,by omega⟩
         ·rw[hc,hd];simp_all[za3]
         ·simp only[at_set,Nat.reduceBEq,cond_true,z9 (show i < 2 ^ 62 by omega)]
       ·all_goals (refine⟨eI,_,eR,?_⟩;try simp only[zp])
        have hff:p.funcs.all za3=false:=by rw[hc,hd];simp_all[za3]
        simp only[zdX,hff];simp
      ·all_goals (refine⟨eI,_,eR,?_⟩;try simp only[zp])
       have hlx:za3 x=false:=by
        simp only[za3,Bool.and_eq_false_iff,decide_eq_false_iff_not]
        first|exact .inl (.inl (.inl (by assumption)))|exact .inl (.inl (.inr (by assumption)))
       have hff:p.funcs.all za3=false:=by rw[hc,hd,hlx,Bool.false_and]
       simp only[zdX,hff];simp
      ·all_goals (refine⟨eI,_,eR,?_⟩;try simp only[zp])
       have hlx:za3 x=false:=by
        simp only[za3,Bool.and_eq_false_iff,decide_eq_false_iff_not]
        first|exact .inl (.inl (.inl (by assumption)))|exact .inl (.inl (.inr (by assumption)))
       have hff:p.funcs.all za3=false:=by rw[hc,hd,hlx,Bool.false_and]
       simp only[zdX,hff];simp
     ·all_goals (refine⟨eI,_,eR,?_⟩;try simp only[zp])
      have:i=p.funcs.length:=by simp at hb;omega
      simp_all[zdX];try (intros;omega)
    ·exact⟨rfl,eE,eE,eE,by omega⟩
  ·exact⟨rfl,eE,eE,eE,eE,by simp[zb,zH],eF⟩
 ·all_goals (refine⟨eI,_,eR,?_⟩;try simp only[zp])
  simp_all[zdX];try (intros;omega)
end Go.Proofs.Ytpbcimfiofmoeaa
