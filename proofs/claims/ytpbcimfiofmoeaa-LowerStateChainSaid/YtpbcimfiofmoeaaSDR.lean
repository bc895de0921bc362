/- Parts: RowC, AbArg, Seeds. -/
import Derived.Deep.Slices
import Derived.Test.YtpbcimfiofmoeaaSDQ
import Derived.WideKeyArgs
import Derived.WideShapes
set_option linter.unusedSimpArgs false
set_option linter.unusedVariables false
set_option linter.unusedSectionVars false
set_option linter.defProp false
set_option maxHeartbeats 32000000
namespace Go.Proofs.Ytpbcimfiofmoeaa
set_option maxRecDepth 20000
open Go Go.Ab
theorem zpB {S:Nat→Prop}{n m:Nat}{H:Hp}{c u w:AV} (h:Ic S n H c u) (e:wkN m u=w) (hw:(∃ k x,w=.int k x)∨(∃ s,w=.str s)∨∃ l,w=.lst l):AV.one c=true:=by
 cases n with
 | zero=>exact h.elim
 | succ n=>
   cases c with
   | agg cs=>
     obtain⟨ds,_,rfl⟩:=h
     cases m<;>rcases hw with ⟨_,_,rfl⟩|⟨_,rfl⟩|⟨_,rfl⟩<;>simp[wkN]at e
   | tup cs=>
     obtain⟨_,rfl⟩:=h
     cases m<;>rcases hw with ⟨_,_,rfl⟩|⟨_,rfl⟩|⟨_,rfl⟩<;>simp[wkN]at e
   | _=>first|rfl|(obtain⟨_,rfl⟩:=h;cases m<;>rcases hw with ⟨_,_,rfl⟩|⟨_,rfl⟩|⟨_,rfl⟩<;>simp[wkN]at e)
theorem ziU {S:Nat→Prop}{n m:Nat}{H:Hp}:∀ {cs us ws:List AV},zbf (Ic S n H) cs us→us.map (wkN m)=ws→(∀ w∈ws,(∃ k x,w=.int k x)∨(∃ s,w=.str s)∨∃ l,w=.lst l)→cs.all AV.one=true
 | [],_,_,_,_,_=>rfl
 | c::cs,u::us,ws,h,e,hw=>by
   subst e
   rw[List.all_cons,zpB (m:=m) h.1 rfl (hw _ List.mem_cons_self),ziU (m:=m) h.2 rfl fun w h2=>hw w (List.mem_cons_of_mem _ h2)]
   rfl
theorem zpC (x:St):∀ w∈x.cells,(∃ k x,w=AV.int k x)∨(∃ s,w=AV.str s)∨∃ l,w=AV.lst l:=by
 rw[St.cells_eq]
 intro w hw
 simp only[List.mem_cons,List.not_mem_nil,or_false]at hw
 rcases hw with rfl|rfl|rfl|rfl|rfl|rfl|rfl|rfl|rfl|rfl|rfl|rfl|rfl|rfl|rfl|rfl|rfl<;>simp
theorem pushC {P:Program}{t u e:TypeId}{z b:Nat}{zz:List AV} (ht:P.underlying t=some (.slice e)) (hs:zG P e=some z) (hb:z8 P e=some b) (hz:yl P e=some zz) (hzz:zz.length=z) (hsrc:jh P u=true)
 {S:Nat→Prop}{n:Nat}{H:Hp}{v:AV}{ws:List (List AV)} (h:yh S n H z v ws) (hlo:S H.next) {x:AV}{rows w:List (List AV)} (hx:yk H z x=some (rows.length,rows.flatten)) (hone:rows.flatten.all AV.one=true)
 (hw:zbS (fun k=>S k∧∀ o m z',v≠.sl k o m z') n H z rows w) (hb1:(ws.length+rows.length) * b≤zW) (hb2:ws.length+rows.length≤zW) :
 ∃ v' H',zX P false H t u v x=some (v',H')∧yh S n H' z v' (ws++w)∧H.next≤H'.next∧H'.next≤H.next+1∧(∀ k,k < H.next→(∀ o m z',v≠.sl k o m z')→H'.get k=H.get k)∧(∀ k o m z',v'=.sl k o m z'→k=H.next∨v'=v)∧(v'=.nilS→v=.nilS):=by
 have hwl2:rows.length=w.length:=zbf.len hw
 by_cases h0:rows=[]
 ·subst h0
  have hw0:w=[]:=List.eq_nil_of_length_eq_zero (by simpa using hwl2.symm)
  subst hw0
  refine⟨v,H,?_,by rw[List.append_nil];exact h,Nat.le_refl _,Nat.le_succ _,fun _ _ _=>rfl,fun _ _ _ _ _=>.inr rfl,fun e=>e⟩
  rcases h with ⟨rfl,rfl⟩|⟨q,imm',rows,rfl,h1,h2,h3,h4,h5⟩<;>
  ·simp only[List.length_nil]at hx
   simp only[zX,ht,hs,hb,hz,hsrc,hx]
 ·have hpos:0 < rows.length:=List.length_pos_iff.2 h0
  obtain⟨m,hm⟩:∃ m,rows.length=m+1:=⟨rows.length - 1,by omega⟩
  rcases h with ⟨rfl,rfl⟩|⟨q,imm',rows',rfl,h1,h2,h3,h4,h5⟩
  ·have hb1':rows.length * b≤zW:=by simpa using hb1
   have hb2':rows.length≤zW:=by simpa using hb2
   refine⟨.sl H.next 0 rows.length z,H.alloc (.cells rows.flatten 0 true),?_,.inr ⟨H.next,0,rows,rfl,hlo,Nat.lt_succ_self _,by rw[za,if_pos rfl],Nat.zero_le _,?_⟩,Nat.le_succ _,Nat.le_refl _,fun k hk _=>by rw[za,if_neg (by omega)],fun k o m z' e=>?_,fun e=>by cases e⟩
   ·rw[hm]at hx hb1' hb2' ⊢
    simp only[zX,ht,hs,hb,hz,hsrc,hx,hone,hzz,and_self,if_true,zae,yY,hb1',hb2']
   ·exact zbS.keep2 hw (fun k h1 h2=>⟨h2.1,by omega⟩) (Nat.le_succ _) fun k h1 h2=>by rw[za,if_neg (by omega)]
   ·simp only[AV.sl.injEq]at e
    exact .inl e.1.symm
  ·have hrl:=zdZ (zbS.len h5)
   have hwl:rows'.length=ws.length:=zbf.len h5
   have htr:zae false H z (.sl q 0 rows'.length z)=H:=by
    unfold zae
    simp only[h3,Nat.zero_add]
    have:Nat.blt (rows'.length * z) rows'.flatten.length=false:=by
     cases hb:Nat.blt (rows'.length * z) rows'.flatten.length with
     | false=>rfl
     | true=>rw[Nat.blt_eq]at hb;omega
    simp only[Bool.not_false,Bool.true_and,this,Bool.false_and]
   refine⟨.sl H.next 0 (rows'.length+rows.length) z,(H.kill q).alloc (.cells (rows'.flatten++rows.flatten) (imm' - 0) true),?_,.inr ⟨H.next,imm' - 0,rows'++rows,by simp,hlo,Nat.lt_succ_self _,?_,by rw[List.flatten_append,List.length_append];omega,?_⟩,Nat.le_succ _,Nat.le_refl _,fun k hk hno=>?_,fun k o m z' e=>?_,fun e=>by cases e⟩
   ·rw[hm]at hx hb1 hb2 ⊢
    simp only[zX,ht,hs,hb,hz,hsrc,hx,hone,htr,hzz,and_self,if_true,yY,h3,Nat.zero_add,List.drop_zero,Bool.false_eq_true,if_false]
    rw[if_pos ⟨by rw[hwl];exact hb1,by rw[hwl];exact hb2,by omega,trivial,h4⟩]
   ·show((H.kill q).alloc _).get (H.kill q).next=_
    rw[za,if_pos rfl];simp
   ·have hold:∀ k,k < H.next→k≠q→((H.kill q).alloc (.cells (rows'.flatten++rows.flatten) (imm' - 0) true)).get k=H.get k:=fun k h6 h7=>by rw[za,if_neg (by simp only[zY];omega),zR,if_neg h7]
    refine zbf.append (h5.keep2 (fun k h6 h7=>⟨h7.1,by omega⟩) (Nat.le_succ _) fun k h6 h7=>hold k h7 h6.2) (zbS.keep2 hw (fun k h6 h7=>⟨h7.1,by omega⟩) (Nat.le_succ _) fun k h6 h7=>hold k h7 fun e=>h6.2 0 rows'.length z (by rw[e]))
   ·rw[za,if_neg (by simp only[zY];omega),zR,if_neg (fun e=>hno 0 rows'.length z (by rw[e]))]
   ·simp only[AV.sl.injEq]at e
    exact .inl e.1.symm
theorem yh.getC {S:Nat→Prop}{n z:Nat}{H:Hp}{v:AV}{ws:List (List AV)} (h:yh S n H z v ws) {i:Nat}{w:List AV} (hi:ws[i]?=some w):∃ (q imm:Nat) (rows:List (List AV)) (row:List AV),v=.sl q 0 ws.length z∧S q∧q < H.next∧H.get q=some (.cells rows.flatten imm true)∧rows[i]?=some row∧row.length=z∧(∀ x∈rows,x.length=z)∧ym (fun k=>S k∧k≠q) n H row w:=by
 rcases h with ⟨_,h2⟩|⟨q,imm,rows,e,h1,h2,h3,h4,h5⟩
 ·subst h2;simp at hi
 ·have hl:=zbf.len h5
  have hlt:i < ws.length:=by
   by_cases c:i < ws.length
   ·exact c
   ·rw[List.getElem?_eq_none (by omega)]at hi;cases hi
  have hr:rows[i]?=some rows[i]:=List.getElem?_eq_getElem (by omega)
  obtain⟨k1,k2⟩:=zbf.get h5 hr hi
  exact⟨q,imm,rows,_,by rw[e,hl],h1,h2,h3,hr,k1,zbS.len h5,k2⟩
theorem ziV {z:Nat}:∀ {rows:List (List AV)}{i:Nat}{r:List AV},(∀ x∈rows,x.length=z)→rows[i]?=some r→rows.flatten.drop (i * z)=r++(rows.drop (i+1)).flatten
 | [],i,r,_,e=>by simp at e
 | a::rows,0,r,h,e=>by
   simp only[List.getElem?_cons_zero,Option.some.injEq]at e
   subst e;simp
 | a::rows,i+1,r,h,e=>by
   have ha:=h a List.mem_cons_self
   have ih:=ziV (rows:=rows) (i:=i) (r:=r) (fun x hx=>h x (List.mem_cons_of_mem _ hx)) (by simpa using e)
   have e1:(i+1) * z=a.length+i * z:=by rw[Nat.succ_mul,ha];omega
   rw[List.flatten_cons,e1,List.drop_length_add_append,ih];rfl
theorem zr6 {z:Nat}{rows:List (List AV)}{i:Nat}{r:List AV} (h:∀ x∈rows,x.length=z) (e:rows[i]?=some r):yL z (rows.flatten.drop (i * z))=some (.agg r):=by
 have hr:=h r (List.mem_of_getElem? e)
 rw[ziV h e]
 unfold yL
 rw[List.take_append_of_le_length (by omega),List.take_of_length_le (by omega),if_pos hr]
theorem zpD {S:Nat→Prop}{n m:Nat}{H:Hp}{c u:AV}{k:IntKind}{x:Int} (h:Ic S n H c u) (e:wkN m u=.int k x):c=.int k x:=by
 cases n with
 | zero=>exact h.elim
 | succ n=>
   cases c with
   | agg cs=>
     obtain⟨ds,_,rfl⟩:=h
     cases m<;>simp[wkN]at e
   | sl r o l z=>
     obtain⟨_,_,_,_,_,_,_,_,_,_,rfl⟩:=h
     cases m<;>simp[wkN]at e
   | _=>obtain⟨_,rfl⟩:=h;cases m<;>simp[wkN]at e ⊢ <;>exact e
theorem stmtAt {S:Nat→Prop}{n:Nat}{H:Hp}{B:AV}{bs:List St} (h:yh S n H 17 B (bs.map St.cells)) {j:Nat} (hj:j < bs.length) :
 ∃ (q imm:Nat) (cs:List AV) (c1 c2 c3 c4 c5 c6 c7 c8 c9 d0 d1 d2 d3 d4 d5 d6:AV),zq Try.prog 48 B (.int .i64 (j:Int))=some (.ptr q (j * 17))∧q < H.next∧H.get q=some (.cells cs imm true)∧yL 17 (cs.drop (j * 17))=some (.agg [.int .i64 bs[j].kind,c1,c2,c3,c4,c5,c6,c7,c8,c9,d0,d1,d2,d3,d4,d5,d6]) ∧
   [AV.int .i64 bs[j].kind,c1,c2,c3,c4,c5,c6,c7,c8,c9,d0,d1,d2,d3,d4,d5,d6].all AV.one=true∧ym S n H [.int .i64 bs[j].kind,c1,c2,c3,c4,c5,c6,c7,c8,c9,d0,d1,d2,d3,d4,d5,d6] bs[j].cells:=by
 have hw:(bs.map St.cells)[j]?=some bs[j].cells:=by rw[List.getElem?_map,List.getElem?_eq_getElem hj];rfl
 obtain⟨q,imm,rows,row,e,_,lq,gq,hr,hrl,h17,hc⟩:=h.getC hw
 obtain⟨c0,c1,c2,c3,c4,c5,c6,c7,c8,c9,d0,d1,d2,d3,d4,d5,d6,rfl⟩:=len17 hrl
 have hc':=hc.frame (S':=S) (fun k hk=>hk.1) (Nat.le_refl _) fun _ _ _=>.inl rfl
 obtain⟨us,h1,h2⟩:=hc'
 have e0:c0=.int .i64 bs[j].kind:=by
  have h3:=h2 n (Nat.le_refl _)
  match us,h1 with
  | u::us,h1=>
    rw[St.cells_eq,List.map_cons,List.cons.injEq]at h3
    exact zpD h1.1 h3.1
 subst e0
 refine⟨q,imm,rows.flatten,c1,c2,c3,c4,c5,c6,c7,c8,c9,d0,d1,d2,d3,d4,d5,d6,?_,lq,gq,zr6 h17 hr,ziU h1 (h2 n (Nat.le_refl _)) (zpC _),us,h1,h2⟩
 rw[e,zdU Try.underlying48 sz55 (by rw[List.length_map];exact hj),Nat.zero_add]
end Go.Proofs.Ytpbcimfiofmoeaa
namespace Go.Ab
set_option maxRecDepth 20000
open Go Go.WideShapes Go.Deep Go.RowKit Go.ChangeShapes
def memF (W:World):Nat→Nat→Option Value:=fun b o=>W.cell? ⟨b,o,none⟩
theorem zvF (W:World):∀ b o v,memF W b o=some v→W.cell? ⟨b,o,none⟩=some v:=fun _ _ _ h=>h
section
variable {H:Type} {enc:TypeId × Value → H} {P:Program} {W:World}
theorem zpE {r:Reach}{b0:Nat}{t e:TypeId}{k:IntKind}{v:Value}{d:DataW H}{ps:List MemPlace}{sp:Nat→Bool}{held:Bool} (ht:P.underlying t=some (.slice e)) (he:P.underlying e=some (.int k)) (hc:P.cellsOf e=1) (hval:Value.okWide P W r b0 t v) (hd:DataW.Trod enc P W 0 sp held t v d ps) (β:Nat→Option (Nat×Nat×Nat)) (ρ:Nat→Int) :
 ∃ l:List Int,VR ⟨β,memF W,ρ⟩ (.lst (l.map fun n=>[AV.int k n])) v∧l.length≤maxLen∧∀ n∈l,(Lit.int k n).wf=true:=by
 obtain⟨a0,zgr,cap0,rfl⟩:=okWide_slice ht hval
 obtain⟨fuel,hf⟩:=hd
 rcases open_slice1 ht hc hf with ⟨h,_⟩|⟨a,len,cap,m,n,V,D,Pl,h,hb,hl,hm,hmm,hx,hV⟩
 ·simp[Value.cells]at h
  obtain⟨rfl,rfl,rfl⟩:=h
  exact⟨[],.lst0 _ _,Nat.zero_le _,fun _ h=>absurd h (by simp)⟩
 ·simp[Value.cells]at h
  obtain⟨rfl,rfl,rfl⟩:=h
  have hlm:zgr≤m:=by rw[hmm];split<;>omega
  have hint:∀ i,∃ n:Int,i < zgr→V i=.int k n∧(Lit.int k n).wf=true:=fun i=>by
   by_cases hi:i < zgr
   ·obtain⟨n',h1,_,h2⟩:=DataW.trod_int he (hV i (by omega)).2
    simp at h1
    exact⟨n',fun _=>⟨h1,h2⟩⟩
   ·exact⟨0,fun h=>absurd h hi⟩
  obtain⟨N,hN0⟩:=Classical.axiomOfChoice hint
  have hN:∀ i,i < zgr→V i=.int k (N i):=fun i h=>(hN0 i h).1
  refine⟨(List.range zgr).map N,?_,by simp;omega,fun n hn=>by
   obtain⟨i,hi,rfl⟩:=List.mem_map.1 hn
   exact(hN0 i (List.mem_range.1 hi)).2⟩
  by_cases h0:zgr=0
  ·subst h0;exact .lst0 _ _
  obtain⟨ab,ao,asp⟩:=a
  have hspot:asp=none:=by
   have:=(hV 0 (by omega)).1
   simp only[Addr.add,if_true,World.cell?]at this
   split at this
   ·split at this
    ·cases this
    ·rename_i hn
     cases asp with
     | none=>rfl
     | some s=>simp at hn
   ·cases this
  subst hspot
  have hlen:(((List.range zgr).map N).map fun n=>[AV.int k n]).length=zgr:=by simp
  have key:=VR.lst (G:=⟨β,memF W,ρ⟩) (xs:=((List.range zgr).map N).map fun n=>[AV.int k n]) (b:=ab) (o:=ao) (cap:=cap0) (z:=1) (fun i _=>V i) ?_ ?_ ?_ (by rw[hlen];omega)
  ·rw[hlen]at key;exact key
  ·intro i row hr
   rw[List.getElem?_map]at hr
   cases hq:((List.range zgr).map N)[i]? with
   | none=>rw[hq]at hr;simp at hr
   | some q=>rw[hq]at hr;simp only[Option.map_some,Option.some.injEq]at hr;rw[← hr];rfl
  ·intro i j hi hj
   rw[hlen]at hi
   have h2:=(hV i (by omega)).1
   show W.cell? ⟨ab,ao+i * 1+j,none⟩=some (V i)
   have hj0:j=0:=by omega
   subst hj0
   rw[← h2]
   congr 1
   unfold Addr.add
   split
   ·rename_i h;subst h;rfl
   ·simp
  ·intro i j row c hr hcj
   rw[List.getElem?_map,List.getElem?_map]at hr
   by_cases hi:i < zgr
   ·rw[List.getElem?_range hi]at hr
    simp only[Option.map_some,Option.some.injEq]at hr
    subst hr
    cases j with
    | zero=>
      simp only[List.getElem?_cons_zero,Option.some.injEq]at hcj
      subst hcj
      show VR _ _ (V i)
      rw[hN i hi]
      exact .int k _
    | succ j=>simp at hcj
   ·rw[List.getElem?_eq_none (by simp;omega)]at hr
    simp at hr
theorem zpF {t:TypeId} (hl:laidOutB P=true) (hr:P.readableRec t=true) (hrow:t < P.types.size) {W':World}{v:Value}{d:DataW H}{ps before:List MemPlace}
 (h:DataW.Trod enc P W 0 (fun _=>true) true t v d ps) (hb:Below W.heap.size W W') (hlt:∀ p∈before,p.block < W.heap.size) (hps:∀ p∈ps,p∈before) {sp:Nat→Bool} (hsp:∀ p∈before,sp p.block=true) :
 DataW.Trod enc P W' 0 sp true t v d ps:=
 WideElems.Trod_stays hl hr hrow h (fun x hx=>hb.same (hlt x (hps x hx))) fun x hx=>hsp x (hps x hx)
end
end Go.Ab
namespace Go.Proofs.Ytpbcimfiofmoeaa
set_option maxRecDepth 20000
open Go Go.Ab
def zkw (l:List Int):AV:=.lst (l.map fun n=>[.int .i64 n])
theorem zkx (l:List Int):zaH (zkw l):=.map fun n _=>.cons (.int _ _) .nil
theorem zpG {n:Nat} (h:n≤maxLen):n < 2 ^ 63:=Nat.lt_of_le_of_lt h (by decide)
theorem cells_int:Try.prog.cellsOf 3=1:=by kernel_rfl
set_option maxRecDepth 100000 in
theorem znp {H:Type}{enc:TypeId×Value→H}{W:World}{v0:Value}{r:Reach}{b0:Nat} (k0:Value.okWide Try.prog W r b0 23 v0) {d:DataW H}{ps:List MemPlace}{sp:Nat→Bool}{held:Bool} (h0:DataW.Trod enc Try.prog W 0 sp held 23 v0 d ps):∃ l:List Int,VR ⟨fun _=>none,memF W,fun _=>0⟩ (zkw l) v0∧l.length < 2 ^ 63∧∀ n∈l,-9223372036854775808≤n∧n < 9223372036854775808:=by
 obtain⟨l,hv,hl,hr⟩:=zpE Try.underlying23 Try.underlying3 cells_int k0 h0 (fun _=>none) (fun _=>0)
 refine⟨l,hv,zpG hl,fun n hn=>?_⟩
 have h:=hr n hn
 have e1:IntKind.min .i64=-9223372036854775808:=by decide
 have e2:IntKind.max .i64=9223372036854775807:=by decide
 simp only[Lit.wf,Bool.and_eq_true,decide_eq_true_eq,e1,e2]at h
 omega
end Go.Proofs.Ytpbcimfiofmoeaa
