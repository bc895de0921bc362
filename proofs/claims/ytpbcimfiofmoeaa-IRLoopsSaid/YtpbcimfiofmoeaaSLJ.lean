/- Parts: P4e, V5, V6, W4a, W4b, W4c, W4d, P4f. -/
import Derived.Test.YtpbcimfiofmoeaaSLI
set_option linter.unusedSimpArgs false
set_option linter.unusedVariables false
set_option linter.unusedSectionVars false
set_option linter.defProp false
set_option maxHeartbeats 32000000
namespace Go.Proofs.Ytpbcimfiofmoeaa
set_option maxRecDepth 20000
set_option maxRecDepth 20000
open Go Go.Ab
namespace tyP4e
def tyF:=And.intro @tq3 (And.intro @tq9 (And.intro @tq32 (And.intro @tq40 (And.intro @tq42 (And.intro @tq47 (And.intro @tq48 (And.intro @tq51 (And.intro @tq53 (And.intro @tq167 (And.intro @tq74 (And.intro @tq140 (@bsS1))))))))))))
end tyP4e
open tyP4e
noncomputable def code82:{ c:SC // slim 28 (Try.f82.body.getD .skip)=c }:=by
 refine ⟨?_,?_⟩
 rotate_left
 · simp only [Try.f82, Option.getD_some, slim, slimR, slimL, slimD, slimG, Nat.blt, Nat.ble]
   rfl
noncomputable def code81:{ c:SC // slim 38 (Try.f81.body.getD .skip)=c }:=by
 refine ⟨?_,?_⟩
 rotate_left
 · simp only [Try.f81, Option.getD_some, slim, slimR, slimL, slimD, slimG, Nat.blt, Nat.ble]
   rfl
noncomputable def code45:{ c:SC // slim 35 (Try.f45.body.getD .skip)=c }:=by
 refine ⟨?_,?_⟩
 rotate_left
 · simp only [Try.f45, Option.getD_some, slim, slimR, slimL, slimD, slimG, Nat.blt, Nat.ble]
   rfl
def bEs (l:List (List UInt8)):List (AV × AV):=l.map fun s=>(.str s,.bool true)
def addS (l:List (List UInt8)) (s:List UInt8):List (List UInt8):=if hasS l s=true then l else l ++ [s]
theorem find_bEs (s : List UInt8) : ∀ (l : List (List UInt8)) (i : Nat), (hasS l s = false → findA .string (.str s) (bEs l) i = some none) ∧ (hasS l s = true → ∃ j, findA .string (.str s) (bEs l) i = some (some (i + j, .bool true)) ∧ (bEs l).set j (.str s, .bool true) = bEs l)
  | [],i=>⟨fun _=>rfl,fun h=>by simp [hasS] at h⟩
  | a :: l, i => by
    have hh:hasS (a :: l) s=(decide (s=a) || hasS l s):=by rw [show a :: l=[a] ++ l from rfl,hasS_append,hasS_one]
    by_cases h:s=a
    · subst h
      rw [hh,decide_eq_true rfl,Bool.true_or]
      refine ⟨fun h=>by simp at h,fun _=>⟨0,?_,?_⟩⟩
      · simp [bEs,findA,keyA]
      · simp [bEs]
    · have hf : findA .string (.str s) (bEs (a :: l)) i = findA .string (.str s) (bEs l) (i + 1) := by
        show findA .string (.str s) ((.str a,.bool true) :: bEs l) i=_
        have:(s == a)=false:=by simpa using h
        simp [findA,keyA,this]
      rw [hh,decide_eq_false h,Bool.false_or,hf]
      obtain ⟨g1,g2⟩:=find_bEs s l (i + 1)
      refine ⟨g1,fun q=>?_⟩
      obtain ⟨j,g3,g4⟩:=g2 q
      exact ⟨j + 1,by rw [g3,show i + 1 + j=i + (j + 1) by omega],by show (AV.str a,AV.bool true) :: (bEs l).set j _=_;rw [g4];rfl⟩
theorem look_bEs {H:Hp} {r:Nat} {l:List (List UInt8)} (hg:H.get r=some (.map (bEs l))) (s:List UInt8):lookupA Try.prog H 140 (.map r) (.str s) false=some (.bool (hasS l s)):=by
 obtain ⟨l1,l2⟩:=lookup_map (P:=Try.prog) (H:=H) (t:=140) (nm:=s) (z:=.bool false) Try.underlying140 (by kernel_rfl) (by kernel_rfl) hg
 cases h:hasS l s with
 | false=>rw [l1 ((find_bEs s l 0).1 h)]
 | true=>obtain ⟨j,h1,h2⟩:=(find_bEs s l 0).2 h;rw [l2 _ _ h1]
theorem upd_bEs {H:Hp} {r:Nat} {l:List (List UInt8)} (hg:H.get r=some (.map (bEs l))) (s:List UInt8):mapUpdateA Try.prog H 140 (.map r) (.str s) (.bool true)=some (H.set r (.map (bEs (addS l s)))):=by
 obtain ⟨l1,l2⟩:=update_map (P:=Try.prog) (H:=H) (t:=140) (nm:=s) (x:=.bool true) Try.underlying140 (by kernel_rfl) hg
 cases h:hasS l s with
 | false=>rw [l1 ((find_bEs s l 0).1 h),addS,h];simp [bEs]
 | true=>obtain ⟨j,h1,h2⟩:=(find_bEs s l 0).2 h;rw [l2 _ _ h1,Nat.zero_add,h2,addS,if_pos h]
def rwE (x:List (List (List UInt8))):List AV:=[.lst (x.map fun l=>[lstS l])]
theorem rwE_inj (x y:List (List (List UInt8))) (h:rwE x=rwE y):x=y:=by
 simp only [rwE,List.cons.injEq,AV.lst.injEq,and_true] at h
 exact map_inj (fun a _ b e=>by simp only [List.cons.injEq,AV.lst.injEq,and_true] at e;exact strs_inj e) h
def rwOk (x:List (List (List UInt8))):Prop:=x.length < 2 ^ 60 ∧ ∀ l ∈ x,l.length < 2 ^ 60
theorem rw_pure (x:List (List (List UInt8))):PureA (.lst (x.map fun l=>[lstS l])):=.map fun l _=>.cons (strs_pure l) .nil
theorem hasDup_con (ρ : Nat → Int) (x : List (List (List UInt8))) (hx : rwOk x) : Con Try.prog ρ 82 (rwE x) (.bool (dupFrom [] x.flatten)) := Con.lev fit (pls := pls) (l := []) trivial (.cons (rw_pure x) .nil) (.bool _) (by
  have hw:=plain0 82
  obtain ⟨hx1,hx2⟩:=hx
  rw [rwE]
  refine WpCall.slim (M:=28) (rs:=[.tmp 2]) (hw.call _) hw.ice hw.froz Try.func82 rfl rfl code82.2 rfl ?_;dsimp only [code82,envOf,Nat.reduceAdd]
  repeat' (first
     | (apply Rx.nl ?_;clear hK K)|apply Rx.o ?_|apply Rx.on ?_|(apply Rx.cd (fun hb hbp=>?_) (fun hb hbp=>?_) <;> try (cases hb;done))|apply Wp.seq ?_|(apply Wp.ops' fun K hK=>?_)|apply Wp.block ?_|apply Rx.sk ?_|apply Rx.rt ?_|apply Rx.xt ?_)
  refine Wp.forI [3,9,10] [] 11 x.length (fun i E H=>∃ seen,H.get 0=some (.map (bEs seen)) ∧ dupFrom [] x.flatten=dupFrom seen (x.drop i).flatten) eE ⟨[],by rw [Hp.get_alloc,if_pos (by rfl)];rfl,rfl⟩ ?_
  rintro i E H2 hi hcE hrH hnH hsI ⟨seen,hm,hJ⟩
  (try simp only [forall_cons,forall_nil,and_true,sB,sO,Nat.reduceBEq,Nat.reduceAdd,Nat.reduceLeDiff,tyF, *] at hcE)
  (try simp only [forall_cons,forall_nil,and_true,sB,sO,Nat.reduceBEq,Nat.reduceAdd,Nat.reduceLeDiff,tyF, *] at hrH)
  (try simp only [Hp.next_alloc,Hp.next_set,H0_next,Nat.zero_add,Nat.reduceAdd] at hnH)
  repeat' (first
     | (apply Rx.nl ?_;clear hK K)|apply Rx.o ?_|apply Rx.on ?_|(apply Rx.cd (fun hb hbp=>?_) (fun hb hbp=>?_) <;> try (cases hb;done))|apply Wp.seq ?_|(apply Wp.ops' fun K hK=>?_)|apply Wp.block ?_|apply Rx.sk ?_|apply Rx.rt ?_|apply Rx.xt ?_)
  · have hlt : i < x.length := by simpa using hb
    have hgx:x[i]?=some x[i]:=List.getElem?_eq_getElem hlt
    have hsm:=hx2 _ (List.getElem_mem hlt)
    have hdr:(x.drop i).flatten=x[i] ++ (x.drop (i + 1)).flatten:=by rw [List.drop_eq_getElem_cons hlt,List.flatten_cons]
    rw [hdr] at hJ
    clear hdr
    generalize x[i]=row at *
    repeat' (first
       | (apply Rx.nl ?_;clear hK K)|apply Rx.o ?_|apply Rx.on ?_|(apply Rx.cd (fun hb hbp=>?_) (fun hb hbp=>?_) <;> try (cases hb;done))|apply Wp.seq ?_|(apply Wp.ops' fun K hK=>?_)|apply Wp.block ?_|apply Rx.sk ?_|apply Rx.rt ?_|apply Rx.xt ?_)
    refine Wp.forI [3,9,10,11,15,16] [] 17 row.length (fun j E H=>∃ seen,H.get 0=some (.map (bEs seen)) ∧ dupFrom [] x.flatten=dupFrom seen (row.drop j ++ (x.drop (i + 1)).flatten)) eE ⟨seen,hm,hJ⟩ ?_
    clear hm hJ seen
    rintro j E3 H3 hj hcE hrH hnH hsI ⟨seen,hm,hJ⟩
    (try simp only [forall_cons,forall_nil,and_true,sB,sO,Nat.reduceBEq,Nat.reduceAdd,Nat.reduceLeDiff,tyF, *] at hcE)
    (try simp only [forall_cons,forall_nil,and_true,sB,sO,Nat.reduceBEq,Nat.reduceAdd,Nat.reduceLeDiff,tyF, *] at hrH)
    (try simp only [Hp.next_alloc,Hp.next_set,H0_next,Nat.zero_add,Nat.reduceAdd] at hnH)
    repeat' (first
       | (apply Rx.nl ?_;clear hK K)|apply Rx.o ?_|apply Rx.on ?_|(apply Rx.cd (fun hb hbp=>?_) (fun hb hbp=>?_) <;> try (cases hb;done))|apply Wp.seq ?_|(apply Wp.ops' fun K hK=>?_)|apply Wp.block ?_|apply Rx.sk ?_|apply Rx.rt ?_|apply Rx.xt ?_)
    · have hlt2 : j < row.length := by simpa using hb
      have hgx2:row[j]?=some row[j]:=List.getElem?_eq_getElem hlt2
      have hdr:dupFrom seen (row.drop j ++ (x.drop (i + 1)).flatten)=(hasS seen row[j] || dupFrom (seen ++ [row[j]]) (row.drop (j + 1) ++ (x.drop (i + 1)).flatten)):=by rw [List.drop_eq_getElem_cons hlt2];rfl
      have hlk:=look_bEs hm row[j]
      have hup:=upd_bEs hm row[j]
      repeat' (first
         | (apply Rx.nl ?_;clear hK K)|apply Rx.o ?_|apply Rx.on ?_|(apply Rx.cd (fun hb hbp=>?_) (fun hb hbp=>?_) <;> try (cases hb;done))|apply Wp.seq ?_|(apply Wp.ops' fun K hK=>?_)|apply Wp.block ?_|apply Rx.sk ?_|apply Rx.rt ?_|apply Rx.xt ?_)
      · all_goals (refine ⟨eI, _, eR, ?_⟩; try simp only [oneOr])
        rw [hJ,hdr];(try simp only [Bool.not_eq_true',Bool.not_eq_false'] at *);simp only [*,decide_true,decide_false,Bool.false_or,Bool.or_false,Bool.true_or,Bool.or_true,Bool.false_and,Bool.and_false,Bool.true_and,Bool.and_true,Bool.not_true,Bool.not_false,if_true,if_false,Int.reduceEq]
      · refine ⟨by omega, eL, eL, eN, (by simp only [sB, Nat.reduceBEq, *]; exact i64_succ (n := row.length) (by omega) (by omega)), ?_⟩
        refine ⟨addS seen row[j],by rw [Hp.get_set,if_pos (by rfl)],?_⟩
        rw [hJ,hdr,addS];(try simp only [Bool.not_eq_true',Bool.not_eq_false'] at *);simp only [*,decide_true,decide_false,Bool.false_or,Bool.or_false,Bool.true_or,Bool.or_true,Bool.false_and,Bool.and_false,Bool.true_and,Bool.and_true,Bool.not_true,Bool.not_false,if_true,if_false,Int.reduceEq];rfl
    · have hje : j = row.length := by simp at hb; omega
      repeat' (first
         | (apply Rx.nl ?_;clear hK K)|apply Rx.o ?_|apply Rx.on ?_|(apply Rx.cd (fun hb hbp=>?_) (fun hb hbp=>?_) <;> try (cases hb;done))|apply Wp.seq ?_|(apply Wp.ops' fun K hK=>?_)|apply Wp.block ?_|apply Rx.sk ?_|apply Rx.rt ?_|apply Rx.xt ?_)
      refine ⟨by omega,eL,eL,eN,(by simp only [sB,Nat.reduceBEq, *];exact i64_succ (n:=x.length) (by omega) (by omega)),?_⟩
      exact ⟨seen,hm,by rw [hJ,hje,List.drop_length,List.nil_append]⟩
  · all_goals (refine ⟨eI, _, eR, ?_⟩; try simp only [oneOr])
    have hie:i=x.length:=by simp at hb;omega
    rw [hJ,hie,List.drop_length];rfl)
def nlS (l:List (List UInt8)):AV:=if l=[] then .nilS else lstS l
def StrX (H:Hp) (v:AV) (l:List (List UInt8)) (lo:Nat):Prop:=(v=.nilS ∧ l=[]) ∨ (l ≠ [] ∧ StrB H v l lo)
theorem StrX.n {H:Hp} {v:AV} {l:List (List UInt8)} {lo:Nat} (h:StrX H v l lo):StrN H v l lo:=h.imp id fun h=>h.2
theorem StrX.keep {H H':Hp} {v:AV} {l:List (List UInt8)} {lo:Nat} (h:StrX H v l lo) (hn:H.next ≤ H'.next) (hg:∀ k,ownS v k → H'.get k=H.get k):StrX H' v l lo:=h.imp id fun h=>⟨h.1,h.2.keep hn hg⟩
theorem iceL_strs (H:Hp) (n:Nat):∀ l:List (List UInt8),iceL (iceV H (n + 1)) (l.map .str)=some (l.map .str)
 | []=>rfl
 | a :: l => by
   have:=iceL_strs H n l
   have e:iceV H (n + 1) (.str a)=some (.str a):=rfl
   simp only [List.map_cons,iceL,e,this]
theorem StrX.iceV {H : Hp} {v : AV} {l : List (List UInt8)} {lo : Nat} (h : StrX H v l lo) (n : Nat) : iceV H (n + 2) v = some (nlS l) := by
  rcases h with ⟨rfl,rfl⟩|⟨h0,r,imm,rfl,h2,_⟩
  · rfl
  · have e : Ab.iceV H (n + 2) (.sl r 0 l.length 1) = match H.get r with
      | some (.cells cs _ _) => match iceL (Ab.iceV H (n + 1)) ((cs.drop 0).take (l.length * 1)) with
        | some l'=>if l'.length=l.length * 1 then some (.lst (chunk 1 l.length l')) else none
        | none=>none
      | _=>none:=rfl
    rw [e,h2]
    simp only [List.drop_zero,Nat.mul_one]
    rw [List.take_of_length_le (by simp),iceL_strs]
    simp only [List.length_map,if_true,chunk_one]
    rw [nlS,if_neg h0]
theorem wk_nlS (n:Nat) (l:List (List UInt8)):wkN (n + 2) (nlS l)=lstS l:=by
 unfold nlS
 split
 · rename_i h;subst h;rfl
 · show AV.lst ((l.map fun s => [AV.str s]).map fun row => row.map (wkN (n + 1))) = _
   rw [List.map_map];rfl
set_option maxRecDepth 100000 in
theorem declared_con (ρ:Nat → Int) (p:Pr) (hz:p.sz < 2 ^ 36):Con Try.prog ρ 81 (prE p) (.tup [lstS (arNames p),lstS (fnNms p)]):=Con.wk' (n:=3) (Con.of_made (r:=.tup [nlS (arNames p),nlS (fnNms p)]) (m:=3) (cfg:=cfgN pls []) fit (noDec ρ) (fun f args r h=>by simp [cfgN,lookN] at h) (.cons (.agg p.pure) .nil) (by
 have hw:=plain0 81
 have hkeep:(cfgN pls []).keep 81=false:=rfl
 have hpz:p.sz=1 + arrsSz p.arrays + fnsSz p.funcs:=rfl
 have hla:=arrsSz_len p.arrays
 have hlf:=fnsSz_len p.funcs
 rw [prE]
 refine WpCall.slim (M:=38) (rs:=[.tmp 2,.tmp 3]) (hw.call _) hw.ice hw.froz Try.func81 rfl rfl code81.2 rfl ?_;dsimp only [code81,envOf,Nat.reduceAdd]
 repeat' (first
    | (apply Rx.nl ?_;clear hK K)|apply Rx.o ?_|apply Rx.on ?_|(apply Rx.cd (fun hb hbp=>?_) (fun hb hbp=>?_) <;> try (cases hb;done))|apply Wp.seq ?_|(apply Wp.ops' fun K hK=>?_)|apply Wp.block ?_|apply Rx.sk ?_|apply Rx.rt ?_|apply Rx.xt ?_)
 refine Wp.forI [1,2,3,5,11,12] [0] 13 p.arrays.length (fun i E H=>∃ v,E.at 4=v ∧ StrX H v ((arNames p).take i) 1) eE ⟨.nilS,eE,.inl ⟨rfl,rfl⟩⟩ ?_
 rintro i E H2 hi hcE hrH hnH hsI ⟨v,k4,hv⟩
 (try simp only [forall_cons,forall_nil,and_true,sB,sO,Nat.reduceBEq,Nat.reduceAdd,Nat.reduceLeDiff,tyF, *] at hcE)
 (try simp only [forall_cons,forall_nil,and_true,sB,sO,Nat.reduceBEq,Nat.reduceAdd,Nat.reduceLeDiff,tyF, *] at hrH)
 (try simp only [Hp.next_alloc,Hp.next_set,H0_next,Nat.zero_add,Nat.reduceAdd] at hnH)
 have hB0:(0 == H2.next)=false:=ne_beq (by omega)
 have hC0:(H2.next == 0)=false:=ne_beq (by omega)
 repeat' (first
    | (apply Rx.nl ?_;clear hK K)|apply Rx.o ?_|apply Rx.on ?_|(apply Rx.cd (fun hb hbp=>?_) (fun hb hbp=>?_) <;> try (cases hb;done))|apply Wp.seq ?_|(apply Wp.ops' fun K hK=>?_)|apply Wp.block ?_|apply Rx.sk ?_|apply Rx.rt ?_|apply Rx.xt ?_)
 · have hlt : i < p.arrays.length := by simpa using hb
   have hgx:p.arrays[i]?=some p.arrays[i]:=List.getElem?_eq_getElem hlt
   have htk:(arNames p).take (i + 1)=(arNames p).take i ++ [p.arrays[i].name]:=by rw [arNames,List.take_add_one,List.getElem?_map,hgx];rfl
   repeat' (first
      | (apply Rx.nl ?_;clear hK K)|apply Rx.o ?_|apply Rx.on ?_|(apply Rx.cd (fun hb hbp=>?_) (fun hb hbp=>?_) <;> try (cases hb;done))|apply Wp.seq ?_|(apply Wp.ops' fun K hK=>?_)|apply Wp.block ?_|apply Rx.sk ?_|apply Rx.rt ?_|apply Rx.xt ?_)
   generalize hHb:Hp.alloc (Hp.set _ _ _) _=Hb
   have nb:Hb.next=H2.next + 2:=by rw [← hHb];rfl
   have oldb:∀ k,k < H2.next → Hb.get k=H2.get k:=fun k hk=>by rw [← hHb,Hp.get_alloc,if_neg (by simp only [Hp.next_set,Hp.next_alloc];omega),Hp.get_set,if_neg (by omega),Hp.get_alloc,if_neg (by omega)]
   have gb:Hb.get (H2.next + 1)=some (.cells [.str p.arrays[i].name] 0 true):=by rw [← hHb,Hp.get_alloc,if_pos (by rfl)]
   clear hHb
   have hvb:StrN Hb v ((arNames p).take i) 1:=hv.n.keep (by omega) fun k hk=>oldb k (hv.n.lt hk).2
   obtain ⟨v5,H5,a5,s5,n5,f5,o5⟩:=app_one (r:=H2.next + 1) (imm:=0) p.arrays[i].name hvb (by omega) gb (by simp;omega)
   have n5':Hb.next ≤ H5.next:=by omega
   clear n5
   have g50:H5.get 0=some (.cells p.cells 0 true):=by rw [f5 0 (by omega),oldb 0 (by omega)];exact hrH
   refine WpL.append eV eV (by rw [hkeep];exact a5) ?_
   repeat' (first
      | (apply Rx.nl ?_;clear hK K)|apply Rx.o ?_|apply Rx.on ?_|(apply Rx.cd (fun hb hbp=>?_) (fun hb hbp=>?_) <;> try (cases hb;done))|apply Wp.seq ?_|(apply Wp.ops' fun K hK=>?_)|apply Wp.block ?_|apply Rx.sk ?_|apply Rx.rt ?_|apply Rx.xt ?_)
   refine ⟨by omega,eL,eL,eN,(by simp only [sB,Nat.reduceBEq, *];exact i64_succ (n:=p.arrays.length) (by omega) (by omega)),?_⟩
   exact ⟨v5,eE,.inr ⟨by rw [htk];simp,by rw [htk];exact s5⟩⟩
 · have hie : i = p.arrays.length := by simp at hb; omega
   have hte:(arNames p).take i=arNames p:=List.take_of_length_le (by simp [arNames];omega)
   rw [hte] at hv
   clear hte hie hsI hi
   repeat' (first
      | (apply Rx.nl ?_;clear hK K)|apply Rx.o ?_|apply Rx.on ?_|(apply Rx.cd (fun hb hbp=>?_) (fun hb hbp=>?_) <;> try (cases hb;done))|apply Wp.seq ?_|(apply Wp.ops' fun K hK=>?_)|apply Wp.block ?_|apply Rx.sk ?_|apply Rx.rt ?_|apply Rx.xt ?_)
   have c3:∀ k,ownS v k → k < H2.next:=fun k hk=>(hv.n.lt hk).2
   refine Wp.forI [2,3,4,24,25] [0] 26 p.funcs.length (fun i E H=>∃ u,E.at 5=u ∧ StrX H u ((fnNms p).take i) H2.next ∧ StrX H v (arNames p) 1) eE ⟨.nilS,eE,.inl ⟨rfl,rfl⟩,hv⟩ ?_
   rintro i E H3 hi hcE hrH hnH hsI ⟨u,k5,hu,hv3⟩
   (try simp only [forall_cons,forall_nil,and_true,sB,sO,Nat.reduceBEq,Nat.reduceAdd,Nat.reduceLeDiff,tyF, *] at hcE)
   (try simp only [forall_cons,forall_nil,and_true,sB,sO,Nat.reduceBEq,Nat.reduceAdd,Nat.reduceLeDiff,tyF, *] at hrH)
   (try simp only [Hp.next_alloc,Hp.next_set,H0_next,Nat.zero_add,Nat.reduceAdd] at hnH)
   have hB0:(0 == H3.next)=false:=ne_beq (by omega)
   have hC0:(H3.next == 0)=false:=ne_beq (by omega)
   repeat' (first
      | (apply Rx.nl ?_;clear hK K)|apply Rx.o ?_|apply Rx.on ?_|(apply Rx.cd (fun hb hbp=>?_) (fun hb hbp=>?_) <;> try (cases hb;done))|apply Wp.seq ?_|(apply Wp.ops' fun K hK=>?_)|apply Wp.block ?_|apply Rx.sk ?_|apply Rx.rt ?_|apply Rx.xt ?_)
   · have hlt : i < p.funcs.length := by simpa using hb
     have hgx:p.funcs[i]?=some p.funcs[i]:=List.getElem?_eq_getElem hlt
     have htk:(fnNms p).take (i + 1)=(fnNms p).take i ++ [p.funcs[i].name]:=by rw [fnNms,List.take_add_one,List.getElem?_map,hgx];rfl
     repeat' (first
        | (apply Rx.nl ?_;clear hK K)|apply Rx.o ?_|apply Rx.on ?_|(apply Rx.cd (fun hb hbp=>?_) (fun hb hbp=>?_) <;> try (cases hb;done))|apply Wp.seq ?_|(apply Wp.ops' fun K hK=>?_)|apply Wp.block ?_|apply Rx.sk ?_|apply Rx.rt ?_|apply Rx.xt ?_)
     generalize hHb:Hp.alloc (Hp.set _ _ _) _=Hb
     have nb:Hb.next=H3.next + 2:=by rw [← hHb];rfl
     have oldb:∀ k,k < H3.next → Hb.get k=H3.get k:=fun k hk=>by rw [← hHb,Hp.get_alloc,if_neg (by simp only [Hp.next_set,Hp.next_alloc];omega),Hp.get_set,if_neg (by omega),Hp.get_alloc,if_neg (by omega)]
     have gb:Hb.get (H3.next + 1)=some (.cells [.str p.funcs[i].name] 0 true):=by rw [← hHb,Hp.get_alloc,if_pos (by rfl)]
     clear hHb
     have hub:StrN Hb u ((fnNms p).take i) H2.next:=hu.n.keep (by omega) fun k hk=>oldb k (hu.n.lt hk).2
     obtain ⟨v5,H5,a5,s5,n5,f5,o5⟩:=app_one (r:=H3.next + 1) (imm:=0) p.funcs[i].name hub (by omega) gb (by simp;omega)
     have n5':Hb.next ≤ H5.next:=by omega
     clear n5
     have g50:H5.get 0=some (.cells p.cells 0 true):=by rw [f5 0 (by omega),oldb 0 (by omega)];exact hrH
     refine WpL.append eV eV (by rw [hkeep];exact a5) ?_
     repeat' (first
        | (apply Rx.nl ?_;clear hK K)|apply Rx.o ?_|apply Rx.on ?_|(apply Rx.cd (fun hb hbp=>?_) (fun hb hbp=>?_) <;> try (cases hb;done))|apply Wp.seq ?_|(apply Wp.ops' fun K hK=>?_)|apply Wp.block ?_|apply Rx.sk ?_|apply Rx.rt ?_|apply Rx.xt ?_)
     refine ⟨by omega,eL,eL,eN,(by simp only [sB,Nat.reduceBEq, *];exact i64_succ (n:=p.funcs.length) (by omega) (by omega)),?_⟩
     exact ⟨v5,eE,.inr ⟨by rw [htk];simp,by rw [htk];exact s5⟩,hv3.keep (by omega) fun k hk=>by rw [f5 k (c3 k hk),oldb k (by have:=c3 k hk;omega)]⟩
   · have hie : i = p.funcs.length := by simp at hb; omega
     have hte:(fnNms p).take i=fnNms p:=List.take_of_length_le (by simp [fnNms];omega)
     rw [hte] at hu
     repeat' (first
        | (apply Rx.nl ?_;clear hK K)|apply Rx.o ?_|apply Rx.on ?_|(apply Rx.cd (fun hb hbp=>?_) (fun hb hbp=>?_) <;> try (cases hb;done))|apply Wp.seq ?_|(apply Wp.ops' fun K hK=>?_)|apply Wp.block ?_|apply Rx.sk ?_|apply Rx.rt ?_|apply Rx.xt ?_)
     all_goals (refine ⟨eI,_,eR,?_⟩;try simp only [oneOr])
     have e1:=hv3.iceV (n:=0)
     have e2:=hu.iceV (n:=0)
     show (match iceL (iceV H3 2) [v,u] with|some ds=>some (AV.tup ds)|none=>none)=_
     simp only [iceL,e1,e2])) (by
 show AV.tup [wkN 2 (nlS (arNames p)),wkN 2 (nlS (fnNms p))]=_
 rw [wk_nlS,wk_nlS])
noncomputable def enDecl:En:=⟨81,false,spP (fun p=>p.sz < 2 ^ 36) prE fun p=>.tup [lstS (arNames p),lstS (fnNms p)]⟩
theorem enDecl_ok (ρ:Nat → Int):EnOk Try.prog ρ enDecl:=spP_ok fun p hp=>declared_con ρ p hp
noncomputable def enHasD:En:=⟨82,true,spP rwOk rwE fun x=>.bool (dupFrom [] x.flatten)⟩
theorem enHasD_ok (ρ:Nat → Int):EnOk Try.prog ρ enHasD:=spP_ok fun x hx=>hasDup_con ρ x hx
theorem flat1 (x:List (List (List UInt8))):(x.map fun l=>[lstS l]).flatten=x.map lstS:=by
 induction x with
 | nil=>rfl
 | cons a l ih=>simp [ih]
theorem rows_ice {H:Hp} {r imm:Nat} {x:List (List (List UInt8))} (hg:H.get r=some (.cells (x.map lstS) imm true)) (hr:r < H.next) (hi:imm ≤ x.length) :
   ∃ H',iceHL (iceH 100) [.sl r 0 x.length 1] H=some (rwE x,H') ∧ Icy (fun k=>k=r) H H':=by
 refine Ic.iceL (S:=fun k=>k=r) (n:=100) (m:=rwE x) ⟨?_,trivial⟩
 have h:=Ic.rows (S:=fun k=>k=r) (n:=99) (H:=H) (r:=r) (z:=1) (imm:=imm) (tip:=true) (a:=x.map fun l=>[lstS l]) (b:=x.map fun l=>[lstS l]) rfl hr (by rw [flat1];exact hg) (by rw [flat1];simpa using hi) (by simp) (All2.refl fun a ha=>All2.refl fun c hc=>by
   obtain ⟨l,_,rfl⟩:=List.mem_map.1 ha
   rw [List.mem_singleton] at hc
   subst hc
   exact Ic.flat ⟨strs_pure l,trivial⟩)
 rw [List.length_map] at h
 exact h
theorem hasDupM {l:List En} (hl:∀ ar,lookN l 82 ar=enHasD.sp ar) (hi:iceN l 82=true) {H:Hp} {r imm:Nat} {x:List (List (List UInt8))} (hg:H.get r=some (.cells (x.map lstS) imm true)) (hr:r < H.next) (him:imm ≤ x.length) (hx:rwOk x) :
   WpCall Try.prog (cfgN pls l) 82 [.sl r 0 x.length 1] H fun v H'=>v=.bool (dupFrom [] x.flatten) ∧ Icy (fun k=>k=r) H H':=by
 obtain ⟨H',h1,h2⟩:=rows_ice hg hr him
 refine WpCall.mono ?_ (WpCall.enI (enc:=rwE) (out:=fun x=>.bool (dupFrom [] x.flatten)) rwE_inj (x:=x) hl hi hx (H':=H') (fun y _ e=>by simp [rwE] at e) h1)
 rintro v _ ⟨rfl,rfl⟩
 exact ⟨rfl,h2⟩
theorem bsR1 (H:Hp) (a:List (List AV)):buildSliceA Try.prog H 167 1 [(0,.lst a)]=some (.sl H.next 0 1 1,H.alloc (.cells [.lst a] 0 true)):=by kernel_rfl
theorem bsR2 (H:Hp) (a b:List (List AV)):buildSliceA Try.prog H 167 2 [(0,.lst a),(1,.lst b)]=some (.sl H.next 0 2 1,H.alloc (.cells [.lst a,.lst b] 0 true)):=by kernel_rfl
theorem bsR3 (H:Hp) (a b c:List (List AV)):buildSliceA Try.prog H 167 3 [(0,.lst a),(1,.lst b),(2,.lst c)]=some (.sl H.next 0 3 1,H.alloc (.cells [.lst a,.lst b,.lst c] 0 true)):=by kernel_rfl
noncomputable def levDup:List En:=[enDecl,enHasD]
theorem levDup_ok (ρ:Nat → Int):EnsOk Try.prog ρ levDup:=⟨enDecl_ok ρ,enHasD_ok ρ,trivial⟩
set_option maxRecDepth 100000 in
theorem duplicates_con (ρ : Nat → Int) (p : Pr) (hz : p.sz < 2 ^ 36) : Con Try.prog ρ 45 (prE p) (.bool (dupB p)) := Con.lev fit (pls := pls) (levDup_ok ρ) (.cons (.agg p.pure) .nil) (.bool _) (by
  have hw:Plain (cfgN pls levDup) 45:=plainN (fun _=>rfl) rfl
  have kd:∀ H,WpCall Try.prog (cfgN pls levDup) 81 [.agg p.cells] H fun v H'=>v=.tup [lstS (arNames p),lstS (fnNms p)] ∧ H'=H:=fun H=>WpCall.en (enc:=prE) (out:=fun p=>.tup [lstS (arNames p),lstS (fnNms p)]) prE_inj (x:=p) rfl hz
  have hpz:p.sz=1 + arrsSz p.arrays + fnsSz p.funcs:=rfl
  have hla:=arrsSz_len p.arrays
  have hlf:=fnsSz_len p.funcs
  have hal:(arNames p).length=p.arrays.length:=by simp [arNames]
  have hfl:(fnNms p).length=p.funcs.length:=by simp [fnNms]
  have hx0:∀ a b,Ab.extract (.tup [a,b]) 0=some a:=fun _ _=>rfl
  have hx1:∀ a b,Ab.extract (.tup [a,b]) 1=some b:=fun _ _=>rfl
  rw [prE]
  refine WpCall.slim (M:=35) (rs:=[.tmp 2]) (hw.call _) hw.ice hw.froz Try.func45 rfl rfl code45.2 rfl ?_;dsimp only [code45,envOf,Nat.reduceAdd]
  have gh0:=@bsR1
  repeat' (first
     | (apply Rx.nl ?_;clear hK K)|apply Rx.o ?_|apply Rx.on ?_|(apply Rx.call ?_;first|refine Rx.k (kd _) ?_)|(apply Rx.gd (fun hg hgp=>?_) (fun hg hgp=>?_) <;> try (cases hg;done))|(apply Rx.cd (fun hb hbp=>?_) (fun hb hbp=>?_) <;> try (cases hb;done))|apply Wp.seq ?_|(apply Wp.ops' fun K hK=>?_)|apply Wp.block ?_|apply Rx.sk ?_|apply Rx.rt ?_|apply Rx.xt ?_)
  refine WpL.call rfl eVk eAk ?_;simp only [List.cons_append,List.nil_append,List.append_nil]
  refine WpCall.mono ?_ (hasDupM (x:=[arNames p]) (imm:=0) (fun _=>rfl) rfl (by rw [Hp.get_alloc,if_pos (by rfl)];rfl) (Nat.lt_succ_self _) (by simp) ⟨by simp,by simp;omega⟩)
  rintro v H2 ⟨rfl,hy⟩
  have n2:=hy.next
  simp only [Hp.next_alloc,H0_next] at n2
  have g20:H2.get 0=some (.cells p.cells 0 true):=by rw [hy.out 0 (by simp),Hp.get_alloc,if_neg (by simp),Hp.get_alloc,if_pos (by rfl)]
  have n2':2 ≤ H2.next:=by omega
  clear hy n2
  rw [show ([arNames p]:List (List (List UInt8))).flatten=arNames p by simp]
  dsimp only [setO]
  have gh0:=@bsR1
  repeat' (first
     | (apply Rx.nl ?_;clear hK K)|apply Rx.o ?_|apply Rx.on ?_|(apply Rx.gd (fun hg hgp=>?_) (fun hg hgp=>?_) <;> try (cases hg;done))|(apply Rx.cd (fun hb hbp=>?_) (fun hb hbp=>?_) <;> try (cases hb;done))|apply Wp.seq ?_|(apply Wp.ops' fun K hK=>?_)|apply Wp.block ?_|apply Rx.sk ?_|apply Rx.rt ?_|apply Rx.xt ?_)
  · refine WpL.call rfl eVk eAk ?_; simp only [List.cons_append, List.nil_append, List.append_nil]
    refine WpCall.mono ?_ (hasDupM (x:=[fnNms p]) (imm:=0) (fun _=>rfl) rfl (by rw [Hp.get_alloc,if_pos (by rfl)];rfl) (Nat.lt_succ_self _) (by simp) ⟨by simp,by simp;omega⟩)
    rintro v H3 ⟨rfl,hy⟩
    have n3:=hy.next
    simp only [Hp.next_alloc] at n3
    have g30:H3.get 0=some (.cells p.cells 0 true):=by rw [hy.out 0 (by omega),Hp.get_alloc,if_neg (by omega)];exact g20
    have n3':2 ≤ H3.next:=by omega
    clear hy n3
    rw [show ([fnNms p]:List (List (List UInt8))).flatten=fnNms p by simp]
    dsimp only [setO]
    repeat' (first
       | (apply Rx.nl ?_;clear hK K)|apply Rx.o ?_|apply Rx.on ?_|(apply Rx.gd (fun hg hgp=>?_) (fun hg hgp=>?_) <;> try (cases hg;done))|(apply Rx.cd (fun hb hbp=>?_) (fun hb hbp=>?_) <;> try (cases hb;done))|apply Wp.seq ?_|(apply Wp.ops' fun K hK=>?_)|apply Wp.block ?_|apply Rx.sk ?_|apply Rx.rt ?_|apply Rx.xt ?_)
    · all_goals (refine ⟨eI, _, eR, ?_⟩; try simp only [oneOr])
      rw [dupB];(try simp only [Bool.not_eq_true',Bool.not_eq_false'] at *);simp only [*,decide_true,decide_false,Bool.false_or,Bool.or_false,Bool.true_or,Bool.or_true,Bool.false_and,Bool.and_false,Bool.true_and,Bool.and_true,Bool.not_true,Bool.not_false,if_true,if_false,Int.reduceEq]
    · refine Wp.forI [3, 21, 22] [0] 23 p.funcs.length (fun i E H => (p.funcs.any fun f => dupFrom [] (arNames p ++ (f.params ++ f.locals))) = ((p.funcs.drop i).any fun f => dupFrom [] (arNames p ++ (f.params ++ f.locals)))) eE (by simp) ?_
      rintro i E H4 hi hcE hrH hnH hsI hJ
      (try simp only [forall_cons,forall_nil,and_true,sB,sO,Nat.reduceBEq,Nat.reduceAdd,Nat.reduceLeDiff,tyF, *] at hcE)
      (try simp only [forall_cons,forall_nil,and_true,sB,sO,Nat.reduceBEq,Nat.reduceAdd,Nat.reduceLeDiff,tyF, *] at hrH)
      (try simp only [Hp.next_alloc,Hp.next_set,H0_next,Nat.zero_add,Nat.reduceAdd] at hnH)
      have hB0:(0 == H4.next)=false:=ne_beq (by omega)
      have hC0:(H4.next == 0)=false:=ne_beq (by omega)
      repeat' (first
         | (apply Rx.nl ?_;clear hK K)|apply Rx.o ?_|apply Rx.on ?_|(apply Rx.gd (fun hg hgp=>?_) (fun hg hgp=>?_) <;> try (cases hg;done))|(apply Rx.cd (fun hb hbp=>?_) (fun hb hbp=>?_) <;> try (cases hb;done))|apply Wp.seq ?_|(apply Wp.ops' fun K hK=>?_)|apply Wp.block ?_|apply Rx.sk ?_|apply Rx.rt ?_|apply Rx.xt ?_)
      · have hlt : i < p.funcs.length := by simpa using hb
        have hgx:p.funcs[i]?=some p.funcs[i]:=List.getElem?_eq_getElem hlt
        have hsm:=fnsSz_mem (List.getElem_mem hlt)
        have hsz:p.funcs[i].sz=1 + p.funcs[i].name.length + strsSz p.funcs[i].params + strsSz p.funcs[i].locals + stmtsSz p.funcs[i].body + p.funcs[i].value.sz:=rfl
        have hpl:=strsSz_len p.funcs[i].params
        have hll:=strsSz_len p.funcs[i].locals
        have hdr:((p.funcs.drop i).any fun f=>dupFrom [] (arNames p ++ (f.params ++ f.locals)))=(dupFrom [] (arNames p ++ (p.funcs[i].params ++ p.funcs[i].locals)) || ((p.funcs.drop (i + 1)).any fun f=>dupFrom [] (arNames p ++ (f.params ++ f.locals)))):=by rw [List.drop_eq_getElem_cons hlt,List.any_cons]
        have gh0:=@bsR3
        repeat' (first
           | (apply Rx.nl ?_;clear hK K)|apply Rx.o ?_|apply Rx.on ?_|(apply Rx.gd (fun hg hgp=>?_) (fun hg hgp=>?_) <;> try (cases hg;done))|(apply Rx.cd (fun hb hbp=>?_) (fun hb hbp=>?_) <;> try (cases hb;done))|apply Wp.seq ?_|(apply Wp.ops' fun K hK=>?_)|apply Wp.block ?_|apply Rx.sk ?_|apply Rx.rt ?_|apply Rx.xt ?_)
        refine WpL.call rfl eVk eAk ?_;simp only [List.cons_append,List.nil_append,List.append_nil]
        refine WpCall.mono ?_ (hasDupM (x:=[arNames p,p.funcs[i].params,p.funcs[i].locals]) (imm:=0) (fun _=>rfl) rfl (by rw [Hp.get_alloc,if_pos (by rfl)];rfl) (Nat.lt_succ_self _) (by simp) ⟨by simp,by simp;omega⟩)
        rintro v H5 ⟨rfl,hy⟩
        have n5:=hy.next
        simp only [Hp.next_alloc,Hp.next_set] at n5
        have g50:H5.get 0=some (.cells p.cells 0 true):=by rw [hy.out 0 (by intro e;change (0:Nat)=_ at e;(try simp only [Hp.next_set,Hp.next_alloc] at e);omega),Hp.get_alloc,if_neg (by (try simp only [Hp.next_set,Hp.next_alloc]);omega),Hp.get_set,if_neg (by omega),Hp.get_alloc,if_neg (by omega)];exact hrH
        have n5':H4.next ≤ H5.next:=by omega
        clear hy n5
        rw [show ([arNames p,p.funcs[i].params,p.funcs[i].locals]:List (List (List UInt8))).flatten=arNames p ++ (p.funcs[i].params ++ p.funcs[i].locals) by simp]
        dsimp only [setO]
        repeat' (first
           | (apply Rx.nl ?_;clear hK K)|apply Rx.o ?_|apply Rx.on ?_|(apply Rx.gd (fun hg hgp=>?_) (fun hg hgp=>?_) <;> try (cases hg;done))|(apply Rx.cd (fun hb hbp=>?_) (fun hb hbp=>?_) <;> try (cases hb;done))|apply Wp.seq ?_|(apply Wp.ops' fun K hK=>?_)|apply Wp.block ?_|apply Rx.sk ?_|apply Rx.rt ?_|apply Rx.xt ?_)
        · all_goals (refine ⟨eI, _, eR, ?_⟩; try simp only [oneOr])
          rw [dupB,hJ,hdr];(try simp only [Bool.not_eq_true',Bool.not_eq_false'] at *);simp only [*,decide_true,decide_false,Bool.false_or,Bool.or_false,Bool.true_or,Bool.or_true,Bool.false_and,Bool.and_false,Bool.true_and,Bool.and_true,Bool.not_true,Bool.not_false,if_true,if_false,Int.reduceEq]
        · refine ⟨by omega, eL, eL, eN, (by simp only [sB, Nat.reduceBEq, *]; exact i64_succ (n := p.funcs.length) (by omega) (by omega)), ?_⟩
          rw [hJ,hdr];(try simp only [Bool.not_eq_true',Bool.not_eq_false'] at *);simp only [*,decide_true,decide_false,Bool.false_or,Bool.or_false,Bool.true_or,Bool.or_true,Bool.false_and,Bool.and_false,Bool.true_and,Bool.and_true,Bool.not_true,Bool.not_false,if_true,if_false,Int.reduceEq]
      · all_goals (refine ⟨eI, _, eR, ?_⟩; try simp only [oneOr])
        have hie:i=p.funcs.length:=by simp at hb;omega
        rw [hie,List.drop_length] at hJ
        have hJ2:(p.funcs.any fun f=>dupFrom [] (arNames p ++ (f.params ++ f.locals)))=false:=hJ
        rw [dupB,hJ2];(try simp only [Bool.not_eq_true',Bool.not_eq_false'] at *);simp only [*,decide_true,decide_false,Bool.false_or,Bool.or_false,Bool.true_or,Bool.or_true,Bool.false_and,Bool.and_false,Bool.true_and,Bool.and_true,Bool.not_true,Bool.not_false,if_true,if_false,Int.reduceEq]
  · repeat' (first
       | (apply Rx.nl ?_;clear hK K)|apply Rx.o ?_|apply Rx.on ?_|(apply Rx.gd (fun hg hgp=>?_) (fun hg hgp=>?_) <;> try (cases hg;done))|(apply Rx.cd (fun hb hbp=>?_) (fun hb hbp=>?_) <;> try (cases hb;done))|apply Wp.seq ?_|(apply Wp.ops' fun K hK=>?_)|apply Wp.block ?_|apply Rx.sk ?_|apply Rx.rt ?_|apply Rx.xt ?_)
    all_goals (refine ⟨eI,_,eR,?_⟩;try simp only [oneOr])
    rw [dupB];(try simp only [Bool.not_eq_true',Bool.not_eq_false'] at *);simp only [*,decide_true,decide_false,Bool.false_or,Bool.or_false,Bool.true_or,Bool.or_true,Bool.false_and,Bool.and_false,Bool.true_and,Bool.and_true,Bool.not_true,Bool.not_false,if_true,if_false,Int.reduceEq])
end Go.Proofs.Ytpbcimfiofmoeaa
namespace Go.Proofs.Ytpbcimfiofmoeaa
set_option maxRecDepth 20000
set_option maxRecDepth 20000
open Go Go.Ab
namespace tyV5
def tyF:=And.intro @tq2 (And.intro @tq3 (And.intro @tq23 (And.intro @tq25 (And.intro @tq26 (@tq140)))))
end tyV5
open tyV5
noncomputable def code48:{ c:SC // slim 22 (Try.f48.body.getD .skip)=c }:=by
 refine ⟨?_,?_⟩
 rotate_left
 · simp only [Try.f48, Option.getD_some, slim, slimR, slimL, slimD, slimG, Nat.blt, Nat.ble]
   rfl
def ndKey (n:Nd):List UInt8:=strB (keyBy n)
noncomputable def enKey:En:=⟨86,false,spP (fun n=>n.kids.length < 2 ^ 30) ndE1 fun n=>.str (ndKey n)⟩
theorem enKey_ok (ρ:Nat → Int):EnOk Try.prog ρ enKey:=spP_ok fun n hn=>key_con ρ n hn
theorem key_en {tb:List En} (ht:∀ ar,lookN tb 86 ar=enKey.sp ar) (n:Nd) (hn:n.kids.length < 2 ^ 30) (H:Hp):WpCall Try.prog (cfgN pls tb) 86 [.agg n.cells] H fun v H'=>v=.str (ndKey n) ∧ H'=H:=
 WpCall.en (enc:=ndE1) (ok:=fun n=>n.kids.length < 2 ^ 30) (out:=fun n=>.str (ndKey n)) ndE1_inj (x:=n) (ht _) hn
def distV (l:List Nd):Bool:=!dupFrom [] (l.map ndKey)
theorem allDist_con (ρ:Nat → Int) (l:List Nd) (hl:NdsOk l):Con Try.prog ρ 48 [lstN l] (.bool (distV l)):=Con.lev fit (pls:=pls) (l:=[enKey]) ⟨enKey_ok ρ,trivial⟩ (.cons (nds_pure _) .nil) (.bool _) (by
 obtain ⟨hl1,hl2⟩:=hl
 have hw:Plain (cfgN pls [enKey]) 48:=plainN (fun _=>rfl) rfl
 refine WpCall.slim (M:=22) (rs:=[.tmp 2]) (hw.call _) hw.ice hw.froz Try.func48 rfl rfl code48.2 rfl ?_;dsimp only [code48,envOf,Nat.reduceAdd]
 repeat' (first
    | (apply Rx.nl ?_;clear hK K)|apply Rx.o ?_|apply Wp.seq ?_|(apply Wp.ops' fun K hK=>?_)|apply Wp.block ?_|apply Rx.sk ?_|apply Rx.rt ?_|apply Rx.xt ?_)
 refine Wp.forI [3,8,9] [] 10 l.length (fun i E H=>∃ seen,H.get 0=some (.map (bEs seen)) ∧ dupFrom [] (l.map ndKey)=dupFrom seen ((l.drop i).map ndKey)) eE ⟨[],by rw [Hp.get_alloc,if_pos (by rfl)];rfl,rfl⟩ ?_
 rintro i E H2 hi hcE hrH hnH hsI ⟨seen,hm,hJ⟩
 (try simp only [forall_cons,forall_nil,and_true,sB,sO,Nat.reduceBEq,Nat.reduceAdd,Nat.reduceLeDiff,tyF, *] at hcE)
 (try simp only [forall_cons,forall_nil,and_true,sB,sO,Nat.reduceBEq,Nat.reduceAdd,Nat.reduceLeDiff,tyF, *] at hrH)
 (try simp only [Hp.next_alloc,Hp.next_set,H0_next,Nat.zero_add,Nat.reduceAdd] at hnH)
 by_cases hlt:i < l.length
 · have hlt' : (i : Int) < l.length := by omega
   have hgx:l[i]?=some l[i]:=List.getElem?_eq_getElem hlt
   have hnk:=hl2 _ (List.getElem_mem hlt)
   have hdr:dupFrom seen ((l.drop i).map ndKey)=(hasS seen (ndKey l[i]) || dupFrom (seen ++ [ndKey l[i]]) ((l.drop (i + 1)).map ndKey)):=by rw [List.drop_eq_getElem_cons hlt];rfl
   generalize l[i]=n at *
   have hmb:∀ b c,((H2.alloc b).set H2.next c).get 0=some (.map (bEs seen)):=fun b c=>by rw [Hp.get_set,if_neg (by omega),Hp.get_alloc,if_neg (by omega)];exact hm
   have hlk:=fun b c=>look_bEs (hmb b c) (ndKey n)
   have hup:=fun b c=>upd_bEs (hmb b c) (ndKey n)
   repeat' (first
      | (apply Rx.nl ?_;clear hK K)|apply Ry.o ?_|apply Ry.on ?_|(apply Ry.call ?_;first|refine Rx.k (key_en (fun _=>rfl) _ hnk _) ?_)|(apply Ry.cd (fun hb hbp=>?_) (fun hb hbp=>?_) <;> try (cases hb;done))|apply Wp.seq ?_|(apply Wp.ops' fun K hK=>?_)|apply Wp.block ?_|apply Rx.sk ?_|apply Rx.rt ?_|apply Rx.xt ?_)
   · all_goals (refine ⟨eI, _, eR, ?_⟩; try simp only [oneOr])
     rw [distV,hJ,hdr];(try simp only [Bool.not_eq_true',Bool.not_eq_false'] at *);simp only [*,decide_true,decide_false,Bool.false_or,Bool.or_false,Bool.true_or,Bool.or_true,Bool.false_and,Bool.and_false,Bool.true_and,Bool.and_true,Bool.not_true,Bool.not_false,if_true,if_false,Int.reduceEq]
   · refine ⟨by omega, eL, eL, eN, (by simp only [sB, Nat.reduceBEq, *]; exact i64_succ (n := l.length) (by omega) (by omega)), ?_⟩
     refine ⟨addS seen (ndKey n),by rw [Hp.get_set,if_pos (by rfl)],?_⟩
     rw [hJ,hdr,addS];(try simp only [Bool.not_eq_true',Bool.not_eq_false'] at *);simp only [*,decide_true,decide_false,Bool.false_or,Bool.or_false,Bool.true_or,Bool.or_true,Bool.false_and,Bool.and_false,Bool.true_and,Bool.and_true,Bool.not_true,Bool.not_false,if_true,if_false,Int.reduceEq];rfl
 · have hlt' : ¬ (i : Int) < l.length := by omega
   have hie:l.drop i=[]:=List.drop_eq_nil_of_le (by omega)
   rw [hie] at hJ
   repeat' (first
      | (apply Rx.nl ?_;clear hK K)|apply Ry.o ?_|apply Ry.on ?_|(apply Ry.cd (fun hb hbp=>?_) (fun hb hbp=>?_) <;> try (cases hb;done))|apply Wp.seq ?_|(apply Wp.ops' fun K hK=>?_)|apply Wp.block ?_|apply Rx.sk ?_|apply Rx.rt ?_|apply Rx.xt ?_)
   all_goals (refine ⟨eI,_,eR,?_⟩;try simp only [oneOr])
   rw [distV,hJ];rfl)
end Go.Proofs.Ytpbcimfiofmoeaa
namespace Go.Proofs.Ytpbcimfiofmoeaa
set_option maxRecDepth 20000
set_option maxRecDepth 20000
open Go Go.Ab
namespace tyV6
def tyF:=And.intro @tq2 (And.intro @tq3 (And.intro @tq9 (And.intro @tq23 (And.intro @tq25 (And.intro @tq26 (And.intro @tq28 (And.intro @tq31 (And.intro @tq32 (And.intro @tq34 (And.intro @tq104 (@tq106)))))))))))
end tyV6
open tyV6
noncomputable def code23:{ c:SC // slim 114 (Try.f23.body.getD .skip)=c }:=by
 refine ⟨?_,?_⟩
 rotate_left
 · simp only [Try.f23, Option.getD_some, slim, slimR, slimL, slimD, slimG, Nat.blt, Nat.ble]
   rfl
theorem sort_facts {l:List Nd} {i:Nat} {n:Nd} (hn:l[i]?=some n) (h:sortI l i ≠ 0):NdOk n i ∧ (n.op=30 → 0 ≤ n.imm ∧ n.imm ≤ 7) ∧ lpOk n:=by
 have hi:i < l.length:=by
   by_cases c:i < l.length
   · exact c
   · rw [List.getElem?_eq_none (by omega)] at hn;cases hn
 have h0:=h
 rw [sortI_eq hi] at h
 obtain ⟨s,h1,h2,h3⟩:=sort1_kids hn h
 have hl:=kidsI_len h1
 have hk:=kidsI_mem h1
 have f3:n.op=3 → 0 ≤ n.imm ∧ n.imm ≤ 255:=fun e=>by
   rw [immI,if_neg (by omega),if_neg (by omega),mostI,if_neg (by omega),if_pos e,Bool.and_eq_true,decide_eq_true_eq,decide_eq_true_eq] at h3
   exact h3
 have f30:n.op=30 → 0 ≤ n.imm ∧ n.imm ≤ 7:=fun e=>by
   rw [immI,if_neg (by omega),if_neg (by omega),mostI,if_neg (by omega),if_neg (by omega),if_neg (by omega),if_pos e,Bool.and_eq_true,decide_eq_true_eq,decide_eq_true_eq] at h3
   exact h3
 have f31:n.op=31 → 0 ≤ n.imm ∧ n.imm ≤ 15:=fun e=>by
   rw [immI,if_neg (by omega),if_neg (by omega),mostI,if_neg (by omega),if_neg (by omega),if_neg (by omega),if_neg (by omega),if_pos e,Bool.and_eq_true,decide_eq_true_eq,decide_eq_true_eq] at h3
   exact h3
 refine ⟨⟨fun k hk'=>⟨(hk k hk').1,(hk k hk').2.1⟩,f3,fun e=>?_⟩,f30,f31,f3⟩
 have a:arI 31=(-1,true):=by decide
 rw [e,validI,a] at h2
 simp only [Bool.true_eq_false,if_false] at h2
 rw [if_neg (by omega),if_pos trivial] at h2
 simp only [Bool.and_eq_true,decide_eq_true_eq] at h2
 exact ⟨(f31 e).1,(f31 e).2,by omega,by omega⟩
theorem sorts_get {l:List Nd} {i:Nat} (h:i < l.length):(sortsI l l.length)[i]?=some (sortI l i):=by
 have:=sortI_get (l:=l) h (Nat.le_refl _)
 rw [List.getD_eq_getElem?_getD] at this
 have hl:i < (sortsI l l.length).length:=by rw [sortsI_len];exact h
 rw [List.getElem?_eq_getElem hl] at this ⊢
 exact congrArg some this
def okAt (u:Un) (g:Gr) (i:Nat):Bool:=match g.nodes[i]? with
 | some n=>decide (sortI g.nodes i ≠ 0) && refV u g n
 | none=>true
def maskAt (l:List Nd) (i:Int):Nat:=(masksI l l.length).getD i.toNat 0
def vgI (u:Un) (g:Gr):Bool:=
 (decide (0 ≤ g.params) && decide (g.params ≤ 6) && decide ((g.nodes.length:Int) ≤ 2000)) && ((List.range g.nodes.length).all (okAt u g)) &&
 (distV g.nodes && validLoopsV g.nodes && decide (0 ≤ g.value) && decide (g.value < g.nodes.length) && decide (0 ≤ g.state) && decide (g.state < g.nodes.length)) &&
 (decide (sortI g.nodes g.value=1) && decide (sortI g.nodes g.state=2) && decide (maskAt g.nodes g.value=0) && decide (maskAt g.nodes g.state=0))
noncomputable def enVr:En:=⟨47,false,spP vrOk vrE fun x=>.bool (refV x.u x.g x.n)⟩
theorem enVr_ok (ρ:Nat → Int):EnOk Try.prog ρ enVr:=spP_ok fun x hx=>validRef_con ρ x hx
noncomputable def enAd:En:=⟨48,false,spP NdsOk ndsE fun l=>.bool (distV l)⟩
theorem enAd_ok (ρ:Nat → Int):EnOk Try.prog ρ enAd:=spP_ok fun l hl=>allDist_con ρ l hl
noncomputable def enVl:En:=⟨49,false,spP (fun l=>NdsOk l ∧ ∀ n ∈ l,lpOk n) ndsE fun l=>.bool (validLoopsV l)⟩
theorem enVl_ok (ρ:Nat → Int):EnOk Try.prog ρ enVl:=spP_ok fun l hl=>validLoops_con ρ l hl.1 hl.2
noncomputable def enLd:En:=⟨50,false,spP LdOk ndsE fun l=>lstM (masksI l l.length)⟩
theorem enLd_ok (ρ:Nat → Int):EnOk Try.prog ρ enLd:=spP_ok fun l hl=>loopDeps_con ρ l hl
noncomputable def levV:List En:=[enSs,enVr,enAd,enVl,enLd]
theorem levV_ok (ρ:Nat → Int):EnsOk Try.prog ρ levV:=⟨enSs_ok ρ,enVr_ok ρ,enAd_ok ρ,enVl_ok ρ,enLd_ok ρ,trivial⟩
structure VgX where
 u:Un
 g:Gr
def vgE (x:VgX):List AV:=[.agg x.u.cells,.agg x.g.cells]
theorem vgE_inj (x y:VgX) (h:vgE x=vgE y):x=y:=by
 obtain ⟨a,b⟩:=x
 obtain ⟨a',b'⟩:=y
 simp only [vgE,List.cons.injEq,AV.agg.injEq,and_true] at h
 rw [Un.inj h.1,Gr.inj h.2]
def vgOk (x:VgX):Prop:=NdsOk x.g.nodes ∧ x.u.arrays.length < 2 ^ 30 ∧ x.u.funcs.length < 2 ^ 30
theorem mask_get {l:List Nd} {i:Nat} (h:i < l.length):((masksI l l.length).map fun (m:Nat)=>[AV.int .u32 (m:Int)])[i]?=some [.int .u32 ((maskAt l i:Nat):Int)]:=by
 have hl:i < (masksI l l.length).length:=by rw [masksI_len];exact h
 rw [List.getElem?_map,maskAt,Int.toNat_natCast,List.getD_eq_getElem?_getD,List.getElem?_eq_getElem hl];rfl
set_option maxRecDepth 100000 in
theorem validGraph_con (ρ : Nat → Int) (x : VgX) (hx : vgOk x) : Con Try.prog ρ 23 (vgE x) (.bool (vgI x.u x.g)) := Con.lev fit (pls := pls) (levV_ok ρ) (.cons (.agg (Un.pure _)) (.cons (.agg (Gr.pure _)) .nil)) (.bool _) (by
  obtain ⟨u,g⟩:=x
  obtain ⟨hnd,hua,huf⟩:=hx
  have hw:Plain (cfgN pls levV) 23:=plainN (fun _=>rfl) rfl
  rw [vgE]
  simp only [] at hnd hua huf ⊢
  have hnl:=hnd.1
  have ks:∀ H,WpCall Try.prog (cfgN pls levV) 21 [lstN g.nodes] H fun v H'=>v=lstI (sortsI g.nodes g.nodes.length) ∧ H'=H:=fun H=>ss_en (fun _=>rfl) _ hnd H
  by_cases c1:0 ≤ g.params ∧ g.params ≤ 6 ∧ (g.nodes.length:Int) ≤ 2000
  · obtain ⟨c11, c12, c13⟩ := c1
    have d1:¬ g.params < 0:=by omega
    have d2:¬ (6:Int) < g.params:=by omega
    have d3:¬ (2000:Int) < g.nodes.length:=by omega
    refine WpCall.slim (M:=114) (rs:=[.tmp 4]) (hw.call _) hw.ice hw.froz Try.func23 rfl rfl code23.2 rfl ?_;dsimp only [code23,envOf,Nat.reduceAdd]
    repeat' (first
       | (apply Rx.nl ?_;clear hK K)|apply Ry.o ?_|apply Ry.on ?_|(apply Ry.call ?_;first|refine Rx.k (ks _) ?_)|(apply Ry.gd (fun hg hgp=>?_) (fun hg hgp=>?_) <;> try (cases hg;done))|(apply Ry.cd (fun hb hbp=>?_) (fun hb hbp=>?_) <;> try (cases hb;done))|apply Wp.seq ?_|(apply Wp.ops' fun K hK=>?_)|apply Wp.block ?_|apply Rx.sk ?_|apply Rx.rt ?_|apply Rx.xt ?_)
    have vfalse:∀ i,i < g.nodes.length → okAt u g i=false → vgI u g=false:=fun i hi h=>by
      have:((List.range g.nodes.length).all (okAt u g))=false:=by
        rw [List.all_eq_false]
        exact ⟨i,List.mem_range.2 hi,by rw [h];simp⟩
      rw [vgI,this];simp
    refine Wp.forI [2,3,5,27,28] [0,1] 29 g.nodes.length (fun i E H=>∀ j,j < i → okAt u g j=true) eE (fun j hj=>by omega) ?_
    rintro i E Hi hi hcE hrH hnH hsI hJ
    (try simp only [forall_cons,forall_nil,and_true,sB,sO,Nat.reduceBEq,Nat.reduceAdd,Nat.reduceLeDiff,tyF, *] at hcE)
    (try simp only [forall_cons,forall_nil,and_true,sB,sO,Nat.reduceBEq,Nat.reduceAdd,Nat.reduceLeDiff,tyF, *] at hrH)
    (try simp only [Hp.next_alloc,Hp.next_set,H0_next,Nat.zero_add,Nat.reduceAdd] at hnH)
    have hB0:(0 == Hi.next)=false:=ne_beq (by omega)
    have hC0:(Hi.next == 0)=false:=ne_beq (by omega)
    have hB1:(1 == Hi.next)=false:=ne_beq (by omega)
    have hC1:(Hi.next == 1)=false:=ne_beq (by omega)
    have ni:2 ≤ Hi.next:=hnH
    by_cases hlt:i < g.nodes.length
    · have hlt' : (i : Int) < g.nodes.length := by omega
      have hgx:g.nodes[i]?=some g.nodes[i]:=List.getElem?_eq_getElem hlt
      have hnk:=hnd.2 _ (List.getElem_mem hlt)
      have hsg:=sorts_get hlt
      have hsf:=fun h=>sort_facts hgx (l:=g.nodes) (i:=i) h
      have hok:okAt u g i=(decide (sortI g.nodes i ≠ 0) && refV u g g.nodes[i]):=by rw [okAt,hgx]
      have vf:=vfalse i hlt
      clear vfalse
      generalize g.nodes[i]=n at *
      by_cases hs0:sortI g.nodes i=0
      · have vf2 := vf (by rw [hok, hs0]; rfl)
        clear hok vf hJ hsf
        rw [hs0] at hsg
        repeat' (first
           | (apply Rx.nl ?_;clear hK K)|apply Ry.o ?_|apply Ry.on ?_|(apply Ry.gd (fun hg hgp=>?_) (fun hg hgp=>?_) <;> try (cases hg;done))|(apply Ry.cd (fun hb hbp=>?_) (fun hb hbp=>?_) <;> try (cases hb;done))|apply Wp.seq ?_|(apply Wp.ops' fun K hK=>?_)|apply Wp.block ?_|apply Rx.sk ?_|apply Rx.rt ?_|apply Rx.xt ?_)
        all_goals (refine ⟨eI,_,eR,?_⟩;try simp only [oneOr])
        rw [vf2]
      · have hok2 : okAt u g i = refV u g n := by rw [hok, decide_eq_true hs0, Bool.true_and]
        obtain ⟨f1,f2,f3⟩:=hsf hs0
        have kr:∀ H,WpCall Try.prog (cfgN pls levV) 47 [.agg u.cells,.agg g.cells,.agg n.cells] H fun v H'=>v=.bool (refV u g n) ∧ H'=H:=fun H=>WpCall.en (enc:=vrE) (ok:=vrOk) (out:=fun x=>.bool (refV x.u x.g x.n)) vrE_inj (x:=⟨u,g,n⟩) rfl ⟨fun h=>(f2 h).1,hnk,hua,huf⟩
        clear hok hsf f1 f2 f3
        by_cases hr:refV u g n=true
        · repeat' (first
             | (apply Rx.nl ?_;clear hK K)|apply Ry.o ?_|apply Ry.on ?_|(apply Ry.call ?_;first|refine Rx.k (kr _) ?_)|(apply Ry.gd (fun hg hgp=>?_) (fun hg hgp=>?_) <;> try (cases hg;done))|(apply Ry.cd (fun hb hbp=>?_) (fun hb hbp=>?_) <;> try (cases hb;done))|apply Wp.seq ?_|(apply Wp.ops' fun K hK=>?_)|apply Wp.block ?_|apply Rx.sk ?_|apply Rx.rt ?_|apply Rx.xt ?_)
          refine ⟨by omega,eL,eL,eN,(by simp only [sB,Nat.reduceBEq, *];exact i64_succ (n:=g.nodes.length) (by omega) (by omega)),?_⟩
          intro j hj
          by_cases e:j=i
          · rw [e,hok2,hr]
          · exact hJ j (by omega)
        · have hr' : refV u g n = false := by simpa using hr
          have vf2:=vf (by rw [hok2,hr'])
          clear vf hJ hok2
          repeat' (first
             | (apply Rx.nl ?_;clear hK K)|apply Ry.o ?_|apply Ry.on ?_|(apply Ry.call ?_;first|refine Rx.k (kr _) ?_)|(apply Ry.gd (fun hg hgp=>?_) (fun hg hgp=>?_) <;> try (cases hg;done))|(apply Ry.cd (fun hb hbp=>?_) (fun hb hbp=>?_) <;> try (cases hb;done))|apply Wp.seq ?_|(apply Wp.ops' fun K hK=>?_)|apply Wp.block ?_|apply Rx.sk ?_|apply Rx.rt ?_|apply Rx.xt ?_)
          all_goals (refine ⟨eI,_,eR,?_⟩;try simp only [oneOr])
          rw [vf2]
    · have hlt' : ¬ (i : Int) < g.nodes.length := by omega
      have hall:∀ j,j < g.nodes.length → okAt u g j=true:=fun j hj=>hJ j (by omega)
      have hfac:∀ (j:Nat) (n:Nd),g.nodes[j]?=some n → sortI g.nodes j ≠ 0:=fun j n h=>by
        have hj:j < g.nodes.length:=by
          by_cases c:j < g.nodes.length
          · exact c
          · rw [List.getElem?_eq_none (by omega)] at h;cases h
        have:=hall j hj
        rw [okAt,h,Bool.and_eq_true,decide_eq_true_eq] at this
        exact this.1
      have hlp:∀ n ∈ g.nodes,lpOk n:=fun n hn=>by
        obtain ⟨j,hj,e⟩:=List.getElem_of_mem hn
        have h:g.nodes[j]?=some n:=by rw [List.getElem?_eq_getElem hj,e]
        exact (sort_facts h (hfac j n h)).2.2
      have hld:LdOk g.nodes:=⟨hnd,fun j n h=>(sort_facts h (hfac j n h)).1⟩
      have hrange:((List.range g.nodes.length).all (okAt u g))=true:=List.all_eq_true.2 fun j hj=>hall j (List.mem_range.1 hj)
      have hvg:vgI u g=((distV g.nodes && validLoopsV g.nodes && decide (0 ≤ g.value) && decide (g.value < g.nodes.length) && decide (0 ≤ g.state) && decide (g.state < g.nodes.length)) &&
          (decide (sortI g.nodes g.value=1) && decide (sortI g.nodes g.state=2) && decide (maskAt g.nodes g.value=0) && decide (maskAt g.nodes g.state=0))):=by
        rw [vgI,hrange,decide_eq_true c11,decide_eq_true c12,decide_eq_true c13];simp
      rw [hvg]
      clear hvg hrange hall hfac vfalse hJ
      have ka:∀ H,WpCall Try.prog (cfgN pls levV) 48 [lstN g.nodes] H fun v H'=>v=.bool (distV g.nodes) ∧ H'=H:=fun H=>WpCall.en (enc:=ndsE) (ok:=NdsOk) (out:=fun l=>.bool (distV l)) ndsE_inj (x:=g.nodes) rfl hnd
      have kl:∀ H,WpCall Try.prog (cfgN pls levV) 49 [lstN g.nodes] H fun v H'=>v=.bool (validLoopsV g.nodes) ∧ H'=H:=fun H=>WpCall.en (enc:=ndsE) (ok:=fun l=>NdsOk l ∧ ∀ n ∈ l,lpOk n) (out:=fun l=>.bool (validLoopsV l)) ndsE_inj (x:=g.nodes) rfl ⟨hnd,hlp⟩
      have kd:∀ H,WpCall Try.prog (cfgN pls levV) 50 [lstN g.nodes] H fun v H'=>v=.lst ((masksI g.nodes g.nodes.length).map fun (m:Nat)=>[AV.int .u32 (m:Int)]) ∧ H'=H:=fun H=>WpCall.en (enc:=ndsE) (ok:=LdOk) (out:=fun l=>lstM (masksI l l.length)) ndsE_inj (x:=g.nodes) rfl hld
      have hsl:=sortsI_len g.nodes g.nodes.length
      clear hlp hld
      generalize hdv:distV g.nodes=dv at *
      generalize hvv:validLoopsV g.nodes=vl at *
      by_cases cg:dv=true ∧ vl=true ∧ 0 ≤ g.value ∧ g.value < g.nodes.length ∧ 0 ≤ g.state ∧ g.state < g.nodes.length
      · obtain ⟨rfl, rfl, v0, v1, s0, s1⟩ := cg
        obtain ⟨a,ha⟩:=Int.eq_ofNat_of_zero_le v0
        obtain ⟨b,hb0⟩:=Int.eq_ofNat_of_zero_le s0
        have hal:a < g.nodes.length:=by omega
        have hbl:b < g.nodes.length:=by omega
        have q1:=sorts_get hal
        have q2:=sorts_get hbl
        have q3:=mask_get hal
        have q4:=mask_get hbl
        have e1:¬ ((a:Int) < 0):=by omega
        have e2:¬ ((g.nodes.length:Int) ≤ a):=by omega
        have e3:¬ ((b:Int) < 0):=by omega
        have e4:¬ ((g.nodes.length:Int) ≤ b):=by omega
        rw [decide_eq_true v0,decide_eq_true v1,decide_eq_true s0,decide_eq_true s1]
        simp only [Bool.and_self,Bool.true_and]
        rw [ha,hb0]
        clear v0 v1 s0 s1
        repeat' (first
           | (apply Rx.nl ?_;clear hK K)|apply Ry.o ?_|apply Ry.on ?_|(apply Ry.call ?_;first|refine Rx.k (ka _) ?_|refine Rx.k (kl _) ?_|refine Rx.k (kd _) ?_)|(apply Ry.gd (fun hg hgp=>?_) (fun hg hgp=>?_) <;> try (cases hg;done))|(apply Ry.cd (fun hb hbp=>?_) (fun hb hbp=>?_) <;> try (cases hb;done))|apply Wp.seq ?_|(apply Wp.ops' fun K hK=>?_)|apply Wp.block ?_|apply Rx.sk ?_|apply Rx.rt ?_|apply Rx.xt ?_)
        all_goals first
          | exact eK
          | skip
        all_goals
          refine ⟨eI,_,eRW,?_⟩
          simp only [oneOr]
        all_goals
          first
          | (congr 1;simp_all [Int.natCast_eq_zero];done)
          | trace_state
      · have hone : ∀ (b : Bool), ¬ b = false → b = true := fun b h => by simpa using h
        by_cases a1:dv=false
        · have hR : ((dv && vl && decide (0 ≤ g.value) && decide (g.value < g.nodes.length) && decide (0 ≤ g.state) && decide (g.state < g.nodes.length)) &&
          (decide (sortI g.nodes g.value=1) && decide (sortI g.nodes g.state=2) && decide (maskAt g.nodes g.value=0) && decide (maskAt g.nodes g.state=0)))=false:=by rw [a1];rfl
          rw [hR]
          clear hR hone cg
          repeat' (first
             | (apply Rx.nl ?_;clear hK K)|apply Ry.o ?_|apply Ry.on ?_|(apply Ry.call ?_;first|refine Rx.k (ka _) ?_|refine Rx.k (kl _) ?_|refine Rx.k (kd _) ?_)|(apply Ry.gd (fun hg hgp=>?_) (fun hg hgp=>?_) <;> try (cases hg;done))|(apply Ry.cd (fun hb hbp=>?_) (fun hb hbp=>?_) <;> try (cases hb;done))|apply Wp.seq ?_|(apply Wp.ops' fun K hK=>?_)|apply Wp.block ?_|apply Rx.sk ?_|apply Rx.rt ?_|apply Rx.xt ?_)
          all_goals first
            | exact eK
            | skip
          all_goals (refine ⟨eI,_,eR,?_⟩;try simp only [oneOr])
        have b1:=hone _ a1
        by_cases a2:vl=false
        · have hR : ((dv && vl && decide (0 ≤ g.value) && decide (g.value < g.nodes.length) && decide (0 ≤ g.state) && decide (g.state < g.nodes.length)) &&
          (decide (sortI g.nodes g.value=1) && decide (sortI g.nodes g.state=2) && decide (maskAt g.nodes g.value=0) && decide (maskAt g.nodes g.state=0)))=false:=by rw [a2];simp
          rw [hR]
          clear hR hone cg
          repeat' (first
             | (apply Rx.nl ?_;clear hK K)|apply Ry.o ?_|apply Ry.on ?_|(apply Ry.call ?_;first|refine Rx.k (ka _) ?_|refine Rx.k (kl _) ?_|refine Rx.k (kd _) ?_)|(apply Ry.gd (fun hg hgp=>?_) (fun hg hgp=>?_) <;> try (cases hg;done))|(apply Ry.cd (fun hb hbp=>?_) (fun hb hbp=>?_) <;> try (cases hb;done))|apply Wp.seq ?_|(apply Wp.ops' fun K hK=>?_)|apply Wp.block ?_|apply Rx.sk ?_|apply Rx.rt ?_|apply Rx.xt ?_)
          all_goals first
            | exact eK
            | skip
          all_goals (refine ⟨eI,_,eR,?_⟩;try simp only [oneOr])
        have b2:=hone _ a2
        by_cases a3:g.value < 0
        · have hR : ((dv && vl && decide (0 ≤ g.value) && decide (g.value < g.nodes.length) && decide (0 ≤ g.state) && decide (g.state < g.nodes.length)) &&
          (decide (sortI g.nodes g.value=1) && decide (sortI g.nodes g.state=2) && decide (maskAt g.nodes g.value=0) && decide (maskAt g.nodes g.state=0)))=false:=by rw [decide_eq_false (by omega:¬ 0 ≤ g.value)];simp
          rw [hR]
          clear hR hone cg
          repeat' (first
             | (apply Rx.nl ?_;clear hK K)|apply Ry.o ?_|apply Ry.on ?_|(apply Ry.call ?_;first|refine Rx.k (ka _) ?_|refine Rx.k (kl _) ?_|refine Rx.k (kd _) ?_)|(apply Ry.gd (fun hg hgp=>?_) (fun hg hgp=>?_) <;> try (cases hg;done))|(apply Ry.cd (fun hb hbp=>?_) (fun hb hbp=>?_) <;> try (cases hb;done))|apply Wp.seq ?_|(apply Wp.ops' fun K hK=>?_)|apply Wp.block ?_|apply Rx.sk ?_|apply Rx.rt ?_|apply Rx.xt ?_)
          all_goals first
            | exact eK
            | skip
          all_goals (refine ⟨eI,_,eR,?_⟩;try simp only [oneOr])
        by_cases a4:(g.nodes.length:Int) ≤ g.value
        · have hR : ((dv && vl && decide (0 ≤ g.value) && decide (g.value < g.nodes.length) && decide (0 ≤ g.state) && decide (g.state < g.nodes.length)) &&
          (decide (sortI g.nodes g.value=1) && decide (sortI g.nodes g.state=2) && decide (maskAt g.nodes g.value=0) && decide (maskAt g.nodes g.state=0)))=false:=by rw [decide_eq_false (by omega:¬ g.value < g.nodes.length)];simp
          rw [hR]
          clear hR hone cg
          repeat' (first
             | (apply Rx.nl ?_;clear hK K)|apply Ry.o ?_|apply Ry.on ?_|(apply Ry.call ?_;first|refine Rx.k (ka _) ?_|refine Rx.k (kl _) ?_|refine Rx.k (kd _) ?_)|(apply Ry.gd (fun hg hgp=>?_) (fun hg hgp=>?_) <;> try (cases hg;done))|(apply Ry.cd (fun hb hbp=>?_) (fun hb hbp=>?_) <;> try (cases hb;done))|apply Wp.seq ?_|(apply Wp.ops' fun K hK=>?_)|apply Wp.block ?_|apply Rx.sk ?_|apply Rx.rt ?_|apply Rx.xt ?_)
          all_goals first
            | exact eK
            | skip
          all_goals (refine ⟨eI,_,eR,?_⟩;try simp only [oneOr])
        by_cases a5:g.state < 0
        · have hR : ((dv && vl && decide (0 ≤ g.value) && decide (g.value < g.nodes.length) && decide (0 ≤ g.state) && decide (g.state < g.nodes.length)) &&
          (decide (sortI g.nodes g.value=1) && decide (sortI g.nodes g.state=2) && decide (maskAt g.nodes g.value=0) && decide (maskAt g.nodes g.state=0)))=false:=by rw [decide_eq_false (by omega:¬ 0 ≤ g.state)];simp
          rw [hR]
          clear hR hone cg
          repeat' (first
             | (apply Rx.nl ?_;clear hK K)|apply Ry.o ?_|apply Ry.on ?_|(apply Ry.call ?_;first|refine Rx.k (ka _) ?_|refine Rx.k (kl _) ?_|refine Rx.k (kd _) ?_)|(apply Ry.gd (fun hg hgp=>?_) (fun hg hgp=>?_) <;> try (cases hg;done))|(apply Ry.cd (fun hb hbp=>?_) (fun hb hbp=>?_) <;> try (cases hb;done))|apply Wp.seq ?_|(apply Wp.ops' fun K hK=>?_)|apply Wp.block ?_|apply Rx.sk ?_|apply Rx.rt ?_|apply Rx.xt ?_)
          all_goals first
            | exact eK
            | skip
          all_goals (refine ⟨eI,_,eR,?_⟩;try simp only [oneOr])
        have a6:(g.nodes.length:Int) ≤ g.state:=by
          by_cases c:(g.nodes.length:Int) ≤ g.state
          · exact c
          · exact absurd ⟨b1,b2,by omega,by omega,by omega,by omega⟩ cg
        have hR:((dv && vl && decide (0 ≤ g.value) && decide (g.value < g.nodes.length) && decide (0 ≤ g.state) && decide (g.state < g.nodes.length)) &&
          (decide (sortI g.nodes g.value=1) && decide (sortI g.nodes g.state=2) && decide (maskAt g.nodes g.value=0) && decide (maskAt g.nodes g.state=0)))=false:=by rw [decide_eq_false (by omega:¬ g.state < g.nodes.length)];simp
        rw [hR]
        clear hR hone cg
        repeat' (first
           | (apply Rx.nl ?_;clear hK K)|apply Ry.o ?_|apply Ry.on ?_|(apply Ry.call ?_;first|refine Rx.k (ka _) ?_|refine Rx.k (kl _) ?_|refine Rx.k (kd _) ?_)|(apply Ry.gd (fun hg hgp=>?_) (fun hg hgp=>?_) <;> try (cases hg;done))|(apply Ry.cd (fun hb hbp=>?_) (fun hb hbp=>?_) <;> try (cases hb;done))|apply Wp.seq ?_|(apply Wp.ops' fun K hK=>?_)|apply Wp.block ?_|apply Rx.sk ?_|apply Rx.rt ?_|apply Rx.xt ?_)
        all_goals first
          | exact eK
          | skip
        all_goals (refine ⟨eI,_,eR,?_⟩;try simp only [oneOr])
  · have hv : vgI u g = false := by
      rw [vgI]
      cases h:(decide (0 ≤ g.params) && decide (g.params ≤ 6) && decide ((g.nodes.length:Int) ≤ 2000)) with
      | false=>simp
      | true =>
        simp only [Bool.and_eq_true,decide_eq_true_eq] at h
        exact absurd ⟨h.1.1,h.1.2,h.2⟩ c1
    rw [hv]
    refine WpCall.slim (M:=114) (rs:=[.tmp 4]) (hw.call _) hw.ice hw.froz Try.func23 rfl rfl code23.2 rfl ?_;dsimp only [code23,envOf,Nat.reduceAdd]
    by_cases d1:g.params < 0
    · repeat' (first
         | (apply Rx.nl ?_;clear hK K)|apply Ry.o ?_|apply Ry.on ?_|(apply Ry.gd (fun hg hgp=>?_) (fun hg hgp=>?_) <;> try (cases hg;done))|(apply Ry.cd (fun hb hbp=>?_) (fun hb hbp=>?_) <;> try (cases hb;done))|apply Wp.seq ?_|(apply Wp.ops' fun K hK=>?_)|apply Wp.block ?_|apply Rx.sk ?_|apply Rx.rt ?_|apply Rx.xt ?_)
      all_goals (refine ⟨eI,_,eR,?_⟩;try simp only [oneOr])
    · by_cases d2 : (6 : Int) < g.params
      · repeat' (first
           | (apply Rx.nl ?_;clear hK K)|apply Ry.o ?_|apply Ry.on ?_|(apply Ry.gd (fun hg hgp=>?_) (fun hg hgp=>?_) <;> try (cases hg;done))|(apply Ry.cd (fun hb hbp=>?_) (fun hb hbp=>?_) <;> try (cases hb;done))|apply Wp.seq ?_|(apply Wp.ops' fun K hK=>?_)|apply Wp.block ?_|apply Rx.sk ?_|apply Rx.rt ?_|apply Rx.xt ?_)
        all_goals (refine ⟨eI,_,eR,?_⟩;try simp only [oneOr])
      · have d3 : (2000 : Int) < g.nodes.length := by omega
        repeat' (first
           | (apply Rx.nl ?_;clear hK K)|apply Ry.o ?_|apply Ry.on ?_|(apply Ry.gd (fun hg hgp=>?_) (fun hg hgp=>?_) <;> try (cases hg;done))|(apply Ry.cd (fun hb hbp=>?_) (fun hb hbp=>?_) <;> try (cases hb;done))|apply Wp.seq ?_|(apply Wp.ops' fun K hK=>?_)|apply Wp.block ?_|apply Rx.sk ?_|apply Rx.rt ?_|apply Rx.xt ?_)
        all_goals (refine ⟨eI,_,eR,?_⟩;try simp only [oneOr]))
end Go.Proofs.Ytpbcimfiofmoeaa
namespace Go.Proofs.Ytpbcimfiofmoeaa
set_option maxRecDepth 20000
set_option maxRecDepth 20000
open Go Go.Ab
namespace tyW4a
def tyF:=And.intro @tq3 (And.intro @tq9 (And.intro @tq48 (And.intro @tq49 (And.intro @tq51 (And.intro @tq55 (@tq2))))))
end tyW4a
open tyW4a
noncomputable def code78:{ c:SC // slim 28 (Try.f78.body.getD .skip)=c }:=by
 refine ⟨?_,?_⟩
 rotate_left
 · simp only [Try.f78, Option.getD_some, slim, slimR, slimL, slimD, slimG, Nat.blt, Nat.ble]
   rfl
noncomputable def code72:{ c:SC // slim 39 (Try.f72.body.getD .skip)=c }:=by
 refine ⟨?_,?_⟩
 rotate_left
 · simp only [Try.f72, Option.getD_some, slim, slimR, slimL, slimD, slimG, Nat.blt, Nat.ble]
   rfl
def VisitE (cfg:Cfg) (base:Nat) (I:Hp → Prop) (g:FuncId) (cap:List AV) (q:Ex → Int → Bool):Prop:=
 ∀ (x:Ex) (d:Int) (H:Hp),x.sz < 2 ^ 60 → base ≤ H.next → I H → WpCall Try.prog cfg g (.agg x.cells :: .int .i64 d :: cap) H fun v H'=>v=.bool (q x d) ∧ FrB base H H' ∧ I H'
def OfLow (base:Nat) (I:Hp → Prop):Prop:=∀ H H',I H → Low base H H' → I H'
theorem walkExpr_wp {cfg : Cfg} (hw : Plain cfg 78) {base : Nat} {I : Hp → Prop} (hI : OfLow base I) {g : FuncId} {cap : List AV} {q : Ex → Int → Bool} (hq : VisitE cfg base I g cap q) :
    ∀ (n:Nat) (x:Ex),x.sz < n → ∀ (d:Int) (H:Hp),x.sz < 2 ^ 60 → base ≤ H.next → I H → WpCall Try.prog cfg 78 [.agg x.cells,.int .i64 d,.clo g cap] H fun v H'=>v=.bool (walkE q x d) ∧ FrB base H H' ∧ I H'
  | 0,x,hx,_,_,_,_,_=>by omega
  | n + 1, x, hx, d, H, hz, hbase, hi => by
    refine WpCall.slim (M:=28) (rs:=[.tmp 6]) (hw.call _) hw.ice hw.froz Try.func78 rfl rfl code78.2 rfl ?_;dsimp only [code78,envOf,Nat.reduceAdd]
    repeat' (first
       | (apply Rx.nl ?_;clear hK K)|apply Rx.o ?_|apply Rx.on ?_|(apply Rx.cd (fun hb hbp=>?_) (fun hb hbp=>?_) <;> try (cases hb;done))|apply Wp.seq ?_|(apply Wp.ops' fun K hK=>?_)|apply Wp.block ?_|apply Rx.sk ?_|apply Rx.rt ?_|apply Rx.xt ?_)
    refine WpL.call rfl eVk eAk ?_;simp only [List.cons_append,List.nil_append,List.append_nil]
    have hH1:FrB base H (H.alloc (.cells x.cells 0 true)):=(FrB.refl _ _).alloc _
    refine WpCall.mono ?_ (hq x d (H.alloc (.cells x.cells 0 true)) hz (by simp only [Hp.next_alloc];omega) (hI _ _ hi ((Low.refl _ _).alloc hbase _)))
    rintro v H1 ⟨rfl,hf1,hi1⟩
    have hg1:H1.get H.next=some (.cells x.cells 0 true):=by
      rw [hf1.get _ hbase (by simp [Hp.next_alloc]),Hp.get_alloc,if_pos rfl]
    have hn1:H.next < H1.next:=by have:=hf1.next;simp only [Hp.next_alloc] at this;omega
    dsimp only [setO]
    repeat' (first
       | (apply Rx.nl ?_;clear hK K)|apply Rx.o ?_|apply Rx.on ?_|(apply Rx.cd (fun hb hbp=>?_) (fun hb hbp=>?_) <;> try (cases hb;done))|apply Wp.seq ?_|(apply Wp.ops' fun K hK=>?_)|apply Wp.block ?_|apply Rx.sk ?_|apply Rx.rt ?_|apply Rx.xt ?_)
    · all_goals (refine ⟨eI, _, eR, ?_⟩; try simp only [oneOr])
      refine ⟨?_,hH1.trans hf1,hi1⟩
      rw [walkE_eq]
      simp_all
    have hl:x.kids.length < 2 ^ 60:=by have:=exprsSz_len x.kids;have:=x.sz_eq;omega
    refine Wp.loopN (fun i E H2=>walkEs q x.kids (w64 (d + 1))=walkEs q (x.kids.drop i) (w64 (d + 1)) ∧ E.at 1=.int .i64 d ∧ E.at 2=.clo g cap ∧ E.at 15=.lst (x.kids.map Ex.cells) ∧ E.at 16=.int .i64 x.kids.length ∧ E.at 17=.int .i64 i ∧ FrB base H H2 ∧ I H2) x.kids.length ?_ ?_
    · rintro i E H2 hi2 ⟨hc, h1, h2, h15, h16, h17, hf2, hI2⟩
      repeat' (first
         | (apply Rx.nl ?_;clear hK K)|apply Rx.o ?_|apply Rx.on ?_|(apply Rx.cd (fun hb hbp=>?_) (fun hb hbp=>?_) <;> try (cases hb;done))|apply Wp.seq ?_|(apply Wp.ops' fun K hK=>?_)|apply Wp.block ?_|apply Rx.sk ?_|apply Rx.rt ?_|apply Rx.xt ?_)
      · have hlt : i < x.kids.length := by simpa using hb
        have hgx:x.kids[i]?=some x.kids[i]:=List.getElem?_eq_getElem hlt
        repeat' (first
           | (apply Rx.nl ?_;clear hK K)|apply Rx.o ?_|apply Rx.on ?_|(apply Rx.cd (fun hb hbp=>?_) (fun hb hbp=>?_) <;> try (cases hb;done))|apply Wp.seq ?_|(apply Wp.ops' fun K hK=>?_)|apply Wp.block ?_|apply Rx.sk ?_|apply Rx.rt ?_|apply Rx.xt ?_)
        have hxm:x.kids[i] ∈ x.kids:=List.getElem_mem hlt
        have hsm:=exprsSz_mem hxm
        have hsx:=x.sz_eq
        have hf3:FrB base H2 ((H2.alloc (.cells [.int .i64 0,.int .i64 0,.str [],.int .i64 0,.nilS] 0 true)).set H2.next (.cells x.kids[i].cells 0 true)):=((FrB.refl _ _).alloc _).set (.inl (Nat.le_refl _)) _
        have hb2:base ≤ H2.next:=Nat.le_trans hbase (hf2.next)
        have hlow:Low base H2 ((H2.alloc (.cells [.int .i64 0,.int .i64 0,.str [],.int .i64 0,.nilS] 0 true)).set H2.next (.cells x.kids[i].cells 0 true)):=((Low.refl _ _).alloc hb2 _).set hb2 _
        refine WpL.call rfl eVk eAk ?_;simp only [List.cons_append,List.nil_append,List.append_nil]
        refine WpCall.mono ?_ (walkExpr_wp hw hI hq n x.kids[i] (by omega) _ _ (by omega) (by simp only [Hp.next_alloc,Hp.next_set];omega) (hI _ _ hI2 hlow))
        rintro v H3 ⟨rfl,hf4,hI3⟩
        dsimp only [setO]
        repeat' (first
           | (apply Rx.nl ?_;clear hK K)|apply Rx.o ?_|apply Rx.on ?_|(apply Rx.cd (fun hb hbp=>?_) (fun hb hbp=>?_) <;> try (cases hb;done))|apply Wp.seq ?_|(apply Wp.ops' fun K hK=>?_)|apply Wp.block ?_|apply Rx.sk ?_|apply Rx.rt ?_|apply Rx.xt ?_)
        · all_goals (refine ⟨eI, _, eR, ?_⟩; try simp only [oneOr])
          refine ⟨?_,(hf2.trans hf3).trans hf4,hI3⟩
          rw [walkE_eq,hc,walkEs_drop q hlt]
          simp_all
        · refine ⟨hlt, ?_, eE, eE, eE, eE, ?_, (hf2.trans hf3).trans hf4, hI3⟩
          · rw [hc,walkEs_drop q hlt];simp_all
          · simp only [at_set,Nat.reduceBEq,cond_true,wrap_succ (show i < 2 ^ 62 by omega)]
      · have hi3 : i = x.kids.length := by simp at hb; omega
        all_goals (refine ⟨eI,_,eR,?_⟩;try simp only [oneOr])
        refine ⟨?_,hf2,hI2⟩
        rw [walkE_eq,hc,hi3]
        simp_all [walkEs]
    · exact ⟨rfl,eE,eE,eE,eE,eE,hH1.trans hf1,hi1⟩
end Go.Proofs.Ytpbcimfiofmoeaa
namespace Go.Proofs.Ytpbcimfiofmoeaa
set_option maxRecDepth 20000
set_option maxRecDepth 20000
open Go Go.Ab
namespace tyW4b
def tyF:=And.intro @tq3 (And.intro @tq9 (And.intro @tq48 (And.intro @tq49 (And.intro @tq51 (@tq55)))))
end tyW4b
open tyW4b
def VisitS {σ:Type} (cfg:Cfg) (base:Nat) (I:σ → Hp → Prop) (g:FuncId) (cap:List AV) (q:St → Int → σ → Bool × σ):Prop:=
 ∀ (x:St) (d:Int) (s:σ) (H:Hp),x.sz < 2 ^ 60 → base ≤ H.next → I s H → WpCall Try.prog cfg g (.agg x.cells :: .int .i64 d :: cap) H fun v H'=>v=.bool (q x d s).1 ∧ FrB base H H' ∧ I (q x d s).2 H'
theorem walkStmts_wp {cfg : Cfg} (hw : Plain cfg 72) {σ : Type} {base : Nat} {I : σ → Hp → Prop} (hI : ∀ s, OfLow base (I s)) {g : FuncId} {cap : List AV} {q : St → Int → σ → Bool × σ} (hq : VisitS cfg base I g cap q) :
    ∀ (n:Nat) (l:List St),stmtsSz l < n → ∀ (d:Int) (s:σ) (H:Hp),stmtsSz l < 2 ^ 60 → base ≤ H.next → I s H → WpCall Try.prog cfg 72 [.lst (l.map St.cells),.int .i64 d,.clo g cap] H fun v H'=>v=.bool (walkS q l d s).1 ∧ FrB base H H' ∧ I (walkS q l d s).2 H'
  | 0,l,hx,_,_,_,_,_,_=>by omega
  | n + 1, l, hx, d, s, H, hz, hbase, hi => by
    refine WpCall.slim (M:=39) (rs:=[.tmp 6]) (hw.call _) hw.ice hw.froz Try.func72 rfl rfl code72.2 rfl ?_;dsimp only [code72,envOf,Nat.reduceAdd]
    repeat' (first
       | (apply Rx.nl ?_;clear hK K)|apply Rx.o ?_|apply Rx.on ?_|(apply Rx.gd (fun hg hgp=>?_) (fun hg hgp=>?_) <;> try (cases hg;done))|(apply Rx.cd (fun hb hbp=>?_) (fun hb hbp=>?_) <;> try (cases hb;done))|apply Wp.seq ?_|(apply Wp.ops' fun K hK=>?_)|apply Wp.block ?_|apply Rx.sk ?_|apply Rx.rt ?_|apply Rx.xt ?_)
    have hl:l.length < 2 ^ 60:=by have:=stmtsSz_len l;omega
    refine Wp.loopN (fun i E H2=>∃ s2,walkS q l d s=walkS q (l.drop i) d s2 ∧ E.at 1=.int .i64 d ∧ E.at 2=.clo g cap ∧ E.at 9=.lst (l.map St.cells) ∧ E.at 10=.int .i64 l.length ∧ E.at 11=.int .i64 i ∧ FrB base H H2 ∧ I s2 H2) l.length ?_ ?_
    · rintro i E H2 hi2 ⟨s2, hc, h1, h2, h9, h10, h11, hf2, hI2⟩
      repeat' (first
         | (apply Rx.nl ?_;clear hK K)|apply Rx.o ?_|apply Rx.on ?_|(apply Rx.gd (fun hg hgp=>?_) (fun hg hgp=>?_) <;> try (cases hg;done))|(apply Rx.cd (fun hb hbp=>?_) (fun hb hbp=>?_) <;> try (cases hb;done))|apply Wp.seq ?_|(apply Wp.ops' fun K hK=>?_)|apply Wp.block ?_|apply Rx.sk ?_|apply Rx.rt ?_|apply Rx.xt ?_)
      · have hlt : i < l.length := by simpa using hb
        have hgx:l[i]?=some l[i]:=List.getElem?_eq_getElem hlt
        repeat' (first
           | (apply Rx.nl ?_;clear hK K)|apply Rx.o ?_|apply Rx.on ?_|(apply Rx.gd (fun hg hgp=>?_) (fun hg hgp=>?_) <;> try (cases hg;done))|(apply Rx.cd (fun hb hbp=>?_) (fun hb hbp=>?_) <;> try (cases hb;done))|apply Wp.seq ?_|(apply Wp.ops' fun K hK=>?_)|apply Wp.block ?_|apply Rx.sk ?_|apply Rx.rt ?_|apply Rx.xt ?_)
        have hxm:l[i] ∈ l:=List.getElem_mem hlt
        have hsm:=stmtsSz_mem hxm
        have hsx:=l[i].sz_eq
        generalize hx0:l[i]=x at *
        have hb2:base ≤ H2.next:=Nat.le_trans hbase hf2.next
        generalize hH3:(H2.alloc _).set H2.next _=H3
        have hf3:FrB base H2 H3:=by rw [← hH3];exact ((FrB.refl _ _).alloc _).set (.inl (Nat.le_refl _)) _
        have hlow:Low base H2 H3:=by rw [← hH3];exact ((Low.refl _ _).alloc hb2 _).set hb2 _
        have hn3:H2.next < H3.next:=by rw [← hH3];simp only [Hp.next_alloc,Hp.next_set];omega
        have hg3:H3.get H2.next=some (.cells x.cells 0 true):=by rw [← hH3,Hp.get_set,if_pos rfl]
        have hI3:=hI _ _ _ hI2 hlow
        have hwd:=walkS_drop q hlt d s2
        rw [hx0,walk1_eq] at hwd
        rw [hwd] at hc
        refine WpL.call rfl eVk eAk ?_;simp only [List.cons_append,List.nil_append,List.append_nil]
        refine WpCall.mono ?_ (hq x d s2 H3 (by omega) (by omega) hI3)
        rintro v H4 ⟨rfl,hf4,hI4⟩
        generalize hq1:q x d s2=r1 at *
        obtain ⟨ok1,s3⟩:=r1
        have hg4:H4.get H2.next=some (.cells x.cells 0 true):=by rw [hf4.get _ hb2 hn3];exact hg3
        have hn4:H2.next < H4.next:=Nat.lt_of_lt_of_le hn3 hf4.next
        dsimp only [setO]
        cases ok1 with
        | false =>
          repeat' (first
             | (apply Rx.nl ?_;clear hK K)|apply Rx.o ?_|apply Rx.on ?_|(apply Rx.gd (fun hg hgp=>?_) (fun hg hgp=>?_) <;> try (cases hg;done))|(apply Rx.cd (fun hb hbp=>?_) (fun hb hbp=>?_) <;> try (cases hb;done))|apply Wp.seq ?_|(apply Wp.ops' fun K hK=>?_)|apply Wp.block ?_|apply Rx.sk ?_|apply Rx.rt ?_|apply Rx.xt ?_)
          all_goals (refine ⟨eI,_,eR,?_⟩;try simp only [oneOr])
          dsimp only at hc
          rw [hc]
          exact ⟨rfl,(hf2.trans hf3).trans hf4,hI4⟩
        | true =>
          repeat' (first
             | (apply Rx.nl ?_;clear hK K)|apply Rx.o ?_|apply Rx.on ?_|(apply Rx.gd (fun hg hgp=>?_) (fun hg hgp=>?_) <;> try (cases hg;done))|(apply Rx.cd (fun hb hbp=>?_) (fun hb hbp=>?_) <;> try (cases hb;done))|apply Wp.seq ?_|(apply Wp.ops' fun K hK=>?_)|apply Wp.block ?_|apply Rx.sk ?_|apply Rx.rt ?_|apply Rx.xt ?_)
          refine WpL.call rfl eVk eAk ?_;simp only [List.cons_append,List.nil_append,List.append_nil]
          have hrec:=walkStmts_wp hw hI hq n x.thn (by omega) (w64 (d + 1)) s3 H4 (by omega) (by omega) hI4
          refine WpCall.mono ?_ hrec
          rintro v H5 ⟨rfl,hf5,hI5⟩
          generalize hq2:walkS q x.thn (w64 (d + 1)) s3=r2 at *
          obtain ⟨ok2,s4⟩:=r2
          have hg5:H5.get H2.next=some (.cells x.cells 0 true):=by rw [hf5.get _ hb2 hn4];exact hg4
          have hn5:H2.next < H5.next:=Nat.lt_of_lt_of_le hn4 hf5.next
          dsimp only [setO]
          cases ok2 with
          | false =>
            repeat' (first
               | (apply Rx.nl ?_;clear hK K)|apply Rx.o ?_|apply Rx.on ?_|(apply Rx.gd (fun hg hgp=>?_) (fun hg hgp=>?_) <;> try (cases hg;done))|(apply Rx.cd (fun hb hbp=>?_) (fun hb hbp=>?_) <;> try (cases hb;done))|apply Wp.seq ?_|(apply Wp.ops' fun K hK=>?_)|apply Wp.block ?_|apply Rx.sk ?_|apply Rx.rt ?_|apply Rx.xt ?_)
            all_goals (refine ⟨eI,_,eR,?_⟩;try simp only [oneOr])
            simp only [hq2] at hc
            rw [hc]
            exact ⟨rfl,((hf2.trans hf3).trans hf4).trans hf5,hI5⟩
          | true =>
            repeat' (first
               | (apply Rx.nl ?_;clear hK K)|apply Rx.o ?_|apply Rx.on ?_|(apply Rx.gd (fun hg hgp=>?_) (fun hg hgp=>?_) <;> try (cases hg;done))|(apply Rx.cd (fun hb hbp=>?_) (fun hb hbp=>?_) <;> try (cases hb;done))|apply Wp.seq ?_|(apply Wp.ops' fun K hK=>?_)|apply Wp.block ?_|apply Rx.sk ?_|apply Rx.rt ?_|apply Rx.xt ?_)
            refine WpL.call rfl eVk eAk ?_;simp only [List.cons_append,List.nil_append,List.append_nil]
            have hrec2:=walkStmts_wp hw hI hq n x.els (by omega) (w64 (d + 1)) s4 H5 (by omega) (by omega) hI5
            refine WpCall.mono ?_ hrec2
            rintro v H6 ⟨rfl,hf6,hI6⟩
            generalize hq3:walkS q x.els (w64 (d + 1)) s4=r3 at *
            obtain ⟨ok3,s5⟩:=r3
            dsimp only [setO]
            have hf7:FrB base H H6:=(((hf2.trans hf3).trans hf4).trans hf5).trans hf6
            cases ok3 with
            | false =>
              repeat' (first
                 | (apply Rx.nl ?_;clear hK K)|apply Rx.o ?_|apply Rx.on ?_|(apply Rx.gd (fun hg hgp=>?_) (fun hg hgp=>?_) <;> try (cases hg;done))|(apply Rx.cd (fun hb hbp=>?_) (fun hb hbp=>?_) <;> try (cases hb;done))|apply Wp.seq ?_|(apply Wp.ops' fun K hK=>?_)|apply Wp.block ?_|apply Rx.sk ?_|apply Rx.rt ?_|apply Rx.xt ?_)
              all_goals (refine ⟨eI,_,eR,?_⟩;try simp only [oneOr])
              simp only [hq2,hq3] at hc
              rw [hc]
              exact ⟨rfl,hf7,hI6⟩
            | true =>
              repeat' (first
                 | (apply Rx.nl ?_;clear hK K)|apply Rx.o ?_|apply Rx.on ?_|(apply Rx.gd (fun hg hgp=>?_) (fun hg hgp=>?_) <;> try (cases hg;done))|(apply Rx.cd (fun hb hbp=>?_) (fun hb hbp=>?_) <;> try (cases hb;done))|apply Wp.seq ?_|(apply Wp.ops' fun K hK=>?_)|apply Wp.block ?_|apply Rx.sk ?_|apply Rx.rt ?_|apply Rx.xt ?_)
              refine ⟨hlt,s5,?_,eE,eE,eE,eE,?_,hf7,hI6⟩
              · simp only [hq2,hq3] at hc;exact hc
              · simp only [at_set,Nat.reduceBEq,cond_true,wrap_succ (show i < 2 ^ 62 by omega)]
      · have hi3 : i = l.length := by simp at hb; omega
        all_goals (refine ⟨eI,_,eR,?_⟩;try simp only [oneOr])
        rw [hc,hi3]
        simp only [List.drop_length,walkS]
        exact ⟨trivial,hf2,hI2⟩
    · exact ⟨s,rfl,eE,eE,eE,eE,eE,FrB.refl _ _,hi⟩
end Go.Proofs.Ytpbcimfiofmoeaa
namespace Go.Proofs.Ytpbcimfiofmoeaa
set_option maxRecDepth 20000
set_option maxRecDepth 20000
open Go Go.Ab
namespace tyW4c
def tyF:=And.intro @tq3 (And.intro @tq9 (And.intro @tq48 (And.intro @tq49 (And.intro @tq51 (And.intro @tq55 (And.intro @tq2 (And.intro @tq47 (And.intro @tq53 (@tq133)))))))))
end tyW4c
open tyW4c
noncomputable def code73:{ c:SC // slim 24 (Try.f73.body.getD .skip)=c }:=by
 refine ⟨?_,?_⟩
 rotate_left
 · simp only [Try.f73, Option.getD_some, slim, slimR, slimL, slimD, slimG, Nat.blt, Nat.ble]
   rfl
noncomputable def code75:{ c:SC // slim 7 (Try.f75.body.getD .skip)=c }:=by
 refine ⟨?_,?_⟩
 rotate_left
 · simp only [Try.f75, Option.getD_some, slim, slimR, slimL, slimD, slimG, Nat.blt, Nat.ble]
   rfl
noncomputable def code111:{ c:SC // slim 32 (Try.f111.body.getD .skip)=c }:=by
 refine ⟨?_,?_⟩
 rotate_left
 · simp only [Try.f111, Option.getD_some, slim, slimR, slimL, slimD, slimG, Nat.blt, Nat.ble]
   rfl
noncomputable def code74:{ c:SC // slim 15 (Try.f74.body.getD .skip)=c }:=by
 refine ⟨?_,?_⟩
 rotate_left
 · simp only [Try.f74, Option.getD_some, slim, slimR, slimL, slimD, slimG, Nat.blt, Nat.ble]
   rfl
theorem lim1_wp {cfg:Cfg} (hw:Plain cfg 73) {base rn rl:Nat} (hn:rn < base) (hl:rl < base) (hne:rn ≠ rl) (Hb:Hp) :
   VisitS cfg base (fun (s:Int × Int) H=>H.get rn=some (.cells [.int .i64 s.1] 0 true) ∧ H.get rl=some (.cells [.int .i64 s.2] 0 true) ∧ ∀ r,r < base → r ≠ rn → r ≠ rl → H.get r=Hb.get r) 73 [.ptr rn 0,.ptr rl 0] limS:=by
 intro x d s H hz hbase ⟨hi1,hi2,hi3⟩
 have e1:(rn == H.next)=false:=by simp;omega
 have e2:(rl == H.next)=false:=by simp;omega
 have e3:(rl == rn)=false:=by simp;omega
 have e4:(rn == rl)=false:=by simp;omega
 have e5:(H.next == rn)=false:=by simp;omega
 have e6:(H.next == rl)=false:=by simp;omega
 refine WpCall.slim (M:=24) (rs:=[.tmp 6]) (hw.call _) hw.ice hw.froz Try.func73 rfl rfl code73.2 rfl ?_;dsimp only [code73,envOf,Nat.reduceAdd]
 repeat' (first
    | (apply Rx.nl ?_;clear hK K)|apply Rx.o ?_|apply Rx.on ?_|(apply Rx.gd (fun hg hgp=>?_) (fun hg hgp=>?_) <;> try (cases hg;done))|(apply Rx.cd (fun hb hbp=>?_) (fun hb hbp=>?_) <;> try (cases hb;done))|apply Wp.seq ?_|(apply Wp.ops' fun K hK=>?_)|apply Rx.sk ?_|apply Rx.rt ?_)
 all_goals (refine ⟨eI,_,eR,?_⟩;try simp only [oneOr])
 all_goals (refine ⟨?_,?_,?_,?_,?_⟩)
 all_goals first
   | (intro r q1 q2 q3;simp only [Hp.get_set,Hp.get_alloc,q2,q3,show ¬ r=H.next by omega,if_false];exact hi3 r q1 q2 q3)
   | exact (((FrB.refl _ _).alloc _).set (.inr hn) _).set (.inr hl) _
   | exact ((FrB.refl _ _).alloc _).set (.inr hn) _
   | (simp only [get_set,get_alloc,limS, *,cond_true,cond_false,beq_self_eq_true,Bool.false_and,Bool.and_false,Bool.true_and,Bool.and_true,if_true,if_false];done)
   | (simp_all [limS,get_set,get_alloc];done)
   | skip
theorem lim2_wp {cfg:Cfg} (hw:Plain cfg 75) {base:Nat} {I:Hp → Prop} (hI:OfLow base I):VisitE cfg base I 75 [] limE:=by
 intro x d H hz hbase hi
 refine WpCall.slim (M:=7) (rs:=[.tmp 4]) (hw.call _) hw.ice hw.froz Try.func75 rfl rfl code75.2 rfl ?_;dsimp only [code75,envOf,Nat.reduceAdd]
 repeat' (first
    | (apply Rx.nl ?_;clear hK K)|apply Rx.o ?_|apply Wp.seq ?_|(apply Wp.ops' fun K hK=>?_)|apply Rx.rt ?_)
 all_goals (refine ⟨eI,_,eR,?_⟩;try simp only [oneOr])
 exact ⟨rfl,(FrB.refl _ _).alloc _,hI _ _ hi ((Low.refl _ _).alloc hbase _)⟩
theorem inSt_wp {cfg : Cfg} (hw : Plain cfg 111) (hwe : Plain cfg 78) {base base' : Nat} (hbb : base ≤ base') {I : Hp → Prop} (hI : OfLow base I) {g : FuncId} {cap : List AV} {q : Ex → Int → Bool} (hq : VisitE cfg base I g cap q)
    {r3:Nat} (hr1:base ≤ r3) (hr2:r3 < base') (H1:Hp) :
    VisitS cfg base' (fun (_:Unit) H=>I H ∧ H.get r3=some (.cells [.clo g cap] 0 true) ∧ ∀ r,base ≤ r → r < base' → H.get r=H1.get r) 111 [.ptr r3 0] (inSt q):=by
  intro x d s H hz hbase ⟨hi,hi3,hi1⟩
  have hsz:=x.sz_eq
  have e1:(r3 == H.next)=false:=by simp;omega
  have e2:(H.next == r3)=false:=by simp;omega
  refine WpCall.slim (M:=32) (rs:=[.tmp 5]) (hw.call _) hw.ice hw.froz Try.func111 rfl rfl code111.2 rfl ?_;dsimp only [code111,envOf,Nat.reduceAdd]
  repeat' (first
     | (apply Rx.nl ?_;clear hK K)|apply Rx.o ?_|apply Rx.on ?_|(apply Rx.gd (fun hg hgp=>?_) (fun hg hgp=>?_) <;> try (cases hg;done))|(apply Rx.cd (fun hb hbp=>?_) (fun hb hbp=>?_) <;> try (cases hb;done))|apply Wp.seq ?_|(apply Wp.ops' fun K hK=>?_)|apply Wp.block ?_|apply Rx.sk ?_|apply Rx.rt ?_|apply Rx.xt ?_)
  have hIa:=hI _ _ hi ((Low.refl base H).alloc (Nat.le_trans hbb hbase) (.cells x.cells 0 true))
  refine WpL.call rfl eVk eAk ?_;simp only [List.cons_append,List.nil_append,List.append_nil]
  refine WpCall.mono ?_ (walkExpr_wp hwe hI hq (x.at_.sz + 1) x.at_ (by omega) 0 _ (by omega) (by simp only [Hp.next_alloc];omega) hIa)
  rintro v H2 ⟨rfl,hf2,hi2⟩
  have hn2:H.next < H2.next:=by have:=hf2.next;simp only [Hp.next_alloc] at this;omega
  have hg2:H2.get H.next=some (.cells x.cells 0 true):=by rw [hf2.get _ (by omega) (by simp [Hp.next_alloc]),Hp.get_alloc,if_pos rfl]
  have hr3:H2.get r3=some (.cells [.clo g cap] 0 true):=by rw [hf2.get _ hr1 (by simp only [Hp.next_alloc];omega),Hp.get_alloc,if_neg (by omega)];exact hi3
  have hF2:FrB base H H2:=((FrB.refl _ _).alloc _).trans hf2
  have hold2:∀ r,base ≤ r → r < base' → H2.get r=H1.get r:=fun r h1 h2=>by rw [hF2.get r h1 (by omega)];exact hi1 r h1 h2
  dsimp only [setO]
  repeat' (first
     | (apply Rx.nl ?_;clear hK K)|apply Rx.o ?_|apply Rx.on ?_|(apply Rx.gd (fun hg hgp=>?_) (fun hg hgp=>?_) <;> try (cases hg;done))|(apply Rx.cd (fun hb hbp=>?_) (fun hb hbp=>?_) <;> try (cases hb;done))|apply Wp.seq ?_|(apply Wp.ops' fun K hK=>?_)|apply Wp.block ?_|apply Rx.sk ?_|apply Rx.rt ?_|apply Rx.xt ?_)
  · refine WpL.call rfl eVk eAk ?_; simp only [List.cons_append, List.nil_append, List.append_nil]
    refine WpCall.mono ?_ (walkExpr_wp hwe hI hq (x.value.sz + 1) x.value (by omega) 0 _ (by omega) (by omega) hi2)
    rintro v H3 ⟨rfl,hf3,hi3'⟩
    have hn3:H.next < H3.next:=Nat.lt_of_lt_of_le hn2 hf3.next
    have hg3:H3.get H.next=some (.cells x.cells 0 true):=by rw [hf3.get _ (by omega) hn2];exact hg2
    have hr3b:H3.get r3=some (.cells [.clo g cap] 0 true):=by rw [hf3.get _ hr1 (by omega)];exact hr3
    have hF3:FrB base H H3:=hF2.trans hf3
    have hold3:∀ r,base ≤ r → r < base' → H3.get r=H1.get r:=fun r h1 h2=>by rw [hf3.get r h1 (by omega)];exact hold2 r h1 h2
    dsimp only [setO]
    repeat' (first
       | (apply Rx.nl ?_;clear hK K)|apply Rx.o ?_|apply Rx.on ?_|(apply Rx.gd (fun hg hgp=>?_) (fun hg hgp=>?_) <;> try (cases hg;done))|(apply Rx.cd (fun hb hbp=>?_) (fun hb hbp=>?_) <;> try (cases hb;done))|apply Wp.seq ?_|(apply Wp.ops' fun K hK=>?_)|apply Wp.block ?_|apply Rx.sk ?_|apply Rx.rt ?_|apply Rx.xt ?_)
    · all_goals (refine ⟨eI, _, eR, ?_⟩; try simp only [oneOr])
      exact ⟨by simp_all [inSt],hF3.weak hbb,hi3',hr3b,hold3⟩
    have hl:x.args.length < 2 ^ 60:=by have:=exprsSz_len x.args;omega
    refine Wp.loopN (fun i E H2=>walkEs q x.args 0=walkEs q (x.args.drop i) 0 ∧ E.at 2=.ptr r3 0 ∧ E.at 21=.lst (x.args.map Ex.cells) ∧ E.at 22=.int .i64 x.args.length ∧ E.at 23=.int .i64 i ∧ FrB base H H2 ∧ I H2 ∧ H2.get r3=some (.cells [.clo g cap] 0 true) ∧ (∀ r,base ≤ r → r < base' → H2.get r=H1.get r)) x.args.length ?_ ?_
    · rintro i E H4 hi2 ⟨hc, h2, h21, h22, h23, hf4, hI4, hr4, hold4⟩
      have hn4:=hf4.next
      have e3:(r3 == H4.next)=false:=by simp;omega
      repeat' (first
         | (apply Rx.nl ?_;clear hK K)|apply Rx.o ?_|apply Rx.on ?_|(apply Rx.gd (fun hg hgp=>?_) (fun hg hgp=>?_) <;> try (cases hg;done))|(apply Rx.cd (fun hb hbp=>?_) (fun hb hbp=>?_) <;> try (cases hb;done))|apply Wp.seq ?_|(apply Wp.ops' fun K hK=>?_)|apply Wp.block ?_|apply Rx.sk ?_|apply Rx.rt ?_|apply Rx.xt ?_)
      · have hlt : i < x.args.length := by simpa using hb
        have hgx:x.args[i]?=some x.args[i]:=List.getElem?_eq_getElem hlt
        repeat' (first
           | (apply Rx.nl ?_;clear hK K)|apply Rx.o ?_|apply Rx.on ?_|(apply Rx.gd (fun hg hgp=>?_) (fun hg hgp=>?_) <;> try (cases hg;done))|(apply Rx.cd (fun hb hbp=>?_) (fun hb hbp=>?_) <;> try (cases hb;done))|apply Wp.seq ?_|(apply Wp.ops' fun K hK=>?_)|apply Wp.block ?_|apply Rx.sk ?_|apply Rx.rt ?_|apply Rx.xt ?_)
        have hxm:x.args[i] ∈ x.args:=List.getElem_mem hlt
        have hsm:=exprsSz_mem hxm
        have hb4:base ≤ H4.next:=by omega
        generalize hH5:(H4.alloc _).set H4.next _=H5
        have hf5:FrB base H4 H5:=by rw [← hH5];exact ((FrB.refl _ _).alloc _).set (.inl (Nat.le_refl _)) _
        have hlow5:Low base H4 H5:=by rw [← hH5];exact ((Low.refl _ _).alloc hb4 _).set hb4 _
        have hn5:H4.next < H5.next:=by rw [← hH5];simp only [Hp.next_alloc,Hp.next_set];omega
        refine WpL.call rfl eVk eAk ?_;simp only [List.cons_append,List.nil_append,List.append_nil]
        refine WpCall.mono ?_ (walkExpr_wp hwe hI hq (x.args[i].sz + 1) x.args[i] (by omega) 0 _ (by omega) (by omega) (hI _ _ hI4 hlow5))
        rintro v H6 ⟨rfl,hf6,hi6⟩
        have hF6:FrB base H4 H6:=hf5.trans hf6
        have hr6:H6.get r3=some (.cells [.clo g cap] 0 true):=by rw [hF6.get _ hr1 (by omega)];exact hr4
        have hold6:∀ r,base ≤ r → r < base' → H6.get r=H1.get r:=fun r h1 h2=>by rw [hF6.get r h1 (by omega)];exact hold4 r h1 h2
        dsimp only [setO]
        repeat' (first
           | (apply Rx.nl ?_;clear hK K)|apply Rx.o ?_|apply Rx.on ?_|(apply Rx.gd (fun hg hgp=>?_) (fun hg hgp=>?_) <;> try (cases hg;done))|(apply Rx.cd (fun hb hbp=>?_) (fun hb hbp=>?_) <;> try (cases hb;done))|apply Wp.seq ?_|(apply Wp.ops' fun K hK=>?_)|apply Wp.block ?_|apply Rx.sk ?_|apply Rx.rt ?_|apply Rx.xt ?_)
        · all_goals (refine ⟨eI, _, eR, ?_⟩; try simp only [oneOr])
          refine ⟨?_,(hf4.trans hF6).weak hbb,hi6,hr6,hold6⟩
          have:=walkEs_drop q hlt 0
          simp_all [inSt]
        · refine ⟨hlt, ?_, eE, eE, eE, ?_, hf4.trans hF6, hi6, hr6, hold6⟩
          · rw [hc,walkEs_drop q hlt];simp_all
          · simp only [at_set,Nat.reduceBEq,cond_true,wrap_succ (show i < 2 ^ 62 by omega)]
      · have hi3 : i = x.args.length := by simp at hb; omega
        all_goals (refine ⟨eI,_,eR,?_⟩;try simp only [oneOr])
        refine ⟨?_,hf4.weak hbb,hI4,hr4,hold4⟩
        rw [hi3] at hc
        simp_all [inSt,walkEs]
    · exact ⟨rfl,eE,eE,eE,eE,hF3,hi3',hr3b,hold3⟩
  · all_goals (refine ⟨eI, _, eR, ?_⟩; try simp only [oneOr])
    exact ⟨by simp_all [inSt],hF2.weak hbb,hi2,hr3,hold2⟩
end Go.Proofs.Ytpbcimfiofmoeaa
namespace Go.Proofs.Ytpbcimfiofmoeaa
set_option maxRecDepth 20000
set_option maxRecDepth 20000
open Go Go.Ab
namespace tyW4d
def tyF:=And.intro @tq2 (And.intro @tq3 (And.intro @tq9 (And.intro @tq47 (And.intro @tq48 (And.intro @tq49 (And.intro @tq51 (And.intro @tq53 (And.intro @tq55 (@tq133)))))))))
end tyW4d
open tyW4d
structure Plains (cfg:Cfg):Prop where
 we:Plain cfg 78
 ws:Plain cfg 72
 wx:Plain cfg 74
 wx1:Plain cfg 111
theorem walkExprs_wp {cfg : Cfg} (hp : Plains cfg) {base : Nat} {I : Hp → Prop} (hI : OfLow base I) {g : FuncId} {cap : List AV} {q : Ex → Int → Bool} (hq : VisitE cfg base I g cap q) (x : Fu) (H : Hp) (hz : x.sz < 2 ^ 60) (hbase : base ≤ H.next) (hi : I H) :
    WpCall Try.prog cfg 74 [.agg x.cells,.clo g cap] H fun v H'=>v=.bool (walkFn q x) ∧ FrB base H H' ∧ I H':=by
  have hw:=hp.wx
  have hsz:x.sz=1 + x.name.length + strsSz x.params + strsSz x.locals + stmtsSz x.body + x.value.sz:=rfl
  refine WpCall.slim (M:=15) (rs:=[.tmp 4]) (hw.call _) hw.ice hw.froz Try.func74 rfl rfl code74.2 rfl ?_;dsimp only [code74,envOf,Nat.reduceAdd]
  repeat' (first
     | (apply Rx.nl ?_;clear hK K)|apply Rx.o ?_|(apply Rx.gd (fun hg hgp=>?_) (fun hg hgp=>?_) <;> try (cases hg;done))|apply Wp.seq ?_|(apply Wp.ops' fun K hK=>?_)|apply Rx.rt ?_)
  generalize hH1:(H.alloc (.cells x.cells 0 true)).alloc (.cells [.clo g cap] 0 true)=H1
  have hf1:FrB base H H1:=by rw [← hH1];exact ((FrB.refl _ _).alloc _).alloc _
  have hl1:Low base H H1:=by rw [← hH1];exact ((Low.refl _ _).alloc hbase _).alloc (by simp only [Hp.next_alloc];omega) _
  have hn1:H1.next=H.next + 2:=by rw [← hH1];rfl
  have hga:H1.get H.next=some (.cells x.cells 0 true):=by rw [← hH1,Hp.get_alloc,if_neg (by simp [Hp.next_alloc]),Hp.get_alloc,if_pos rfl]
  have hgb:H1.get (H.next + 1)=some (.cells [.clo g cap] 0 true):=by rw [← hH1,Hp.get_alloc,if_pos (by simp [Hp.next_alloc])]
  refine WpL.call rfl eVk eAk ?_;simp only [List.cons_append,List.nil_append,List.append_nil]
  refine WpCall.mono ?_ (walkExpr_wp hp.we hI hq (x.value.sz + 1) x.value (by omega) 0 H1 (by omega) (by omega) (hI _ _ hi hl1))
  rintro v H2 ⟨rfl,hf2,hi2⟩
  have hn2:=hf2.next
  have hga2:H2.get H.next=some (.cells x.cells 0 true):=by rw [hf2.get _ hbase (by omega)];exact hga
  have hgb2:H2.get (H.next + 1)=some (.cells [.clo g cap] 0 true):=by rw [hf2.get _ (by omega) (by omega)];exact hgb
  dsimp only [setO]
  repeat' (first
     | (apply Rx.nl ?_;clear hK K)|apply Rx.o ?_|(apply Rx.gd (fun hg hgp=>?_) (fun hg hgp=>?_) <;> try (cases hg;done))|apply Wp.seq ?_|(apply Wp.ops' fun K hK=>?_)|apply Rx.rt ?_)
  · refine WpL.call rfl eVk eAk ?_; simp only [List.cons_append, List.nil_append, List.append_nil]
    refine WpCall.mono ?_ (walkStmts_wp hp.ws (base:=H.next + 2) (I:=fun (_:Unit) H'=>I H' ∧ H'.get (H.next + 1)=some (.cells [.clo g cap] 0 true) ∧ ∀ r,base ≤ r → r < H.next + 2 → H'.get r=H2.get r) ?_ (inSt_wp hp.wx1 hp.we (by omega) hI hq (by omega) (by omega) H2) (stmtsSz x.body + 1) x.body (by omega) 0 () H2 (by omega) (by omega) ⟨hi2,hgb2,fun _ _ _=>rfl⟩)
    · rintro v H3 ⟨rfl, hf3, hi3, hg3, hold⟩
      have hF3:FrB base H2 H3:=⟨hf3.next,fun r h1 h2=>by
        by_cases hr:r < H.next + 2
        · exact hold r h1 hr
        · exact hf3.get r (by omega) h2⟩
      dsimp only [setO]
      repeat' (first
         | (apply Rx.nl ?_;clear hK K)|apply Rx.o ?_|(apply Rx.gd (fun hg hgp=>?_) (fun hg hgp=>?_) <;> try (cases hg;done))|apply Wp.seq ?_|(apply Wp.ops' fun K hK=>?_)|apply Rx.rt ?_)
      all_goals (refine ⟨eI,_,eR,?_⟩;try simp only [oneOr])
      exact ⟨by simp_all [walkFn],(hf1.trans hf2).trans hF3,hi3⟩
    · intro _ Ha Hb ⟨h1, h2, h3⟩ hlow
      exact ⟨hI _ _ h1 (hlow.weak (by omega)),by rw [hlow _ (by omega)];exact h2,fun r q1 q2=>by rw [hlow _ q2];exact h3 r q1 q2⟩
  · all_goals (refine ⟨eI, _, eR, ?_⟩; try simp only [oneOr])
    exact ⟨by simp_all [walkFn],hf1.trans hf2,hi2⟩
end Go.Proofs.Ytpbcimfiofmoeaa
namespace Go.Proofs.Ytpbcimfiofmoeaa
set_option maxRecDepth 20000
set_option maxRecDepth 20000
open Go Go.Ab
namespace tyP4f
def tyF:=And.intro @tq3 (And.intro @tq9 (And.intro @tq47 (And.intro @tq140 (And.intro @tq167 (And.intro @tq2 (And.intro @tq49 (And.intro @tq51 (And.intro @tq44 (And.intro @tq48 (And.intro @tq55 (@tq81)))))))))))
end tyP4f
open tyP4f
noncomputable def code83:{ c:SC // slim 26 (Try.f83.body.getD .skip)=c }:=by
 refine ⟨?_,?_⟩
 rotate_left
 · simp only [Try.f83, Option.getD_some, slim, slimR, slimL, slimD, slimG, Nat.blt, Nat.ble]
   rfl
noncomputable def code84:{ c:SC // slim 27 (Try.f84.body.getD .skip)=c }:=by
 refine ⟨?_,?_⟩
 rotate_left
 · simp only [Try.f84, Option.getD_some, slim, slimR, slimL, slimD, slimG, Nat.blt, Nat.ble]
   rfl
noncomputable def code85:{ c:SC // slim 49 (Try.f85.body.getD .skip)=c }:=by
 refine ⟨?_,?_⟩
 rotate_left
 · simp only [Try.f85, Option.getD_some, slim, slimR, slimL, slimD, slimG, Nat.blt, Nat.ble]
   rfl
theorem hasS_addS (l:List (List UInt8)) (a s:List UInt8):hasS (addS l a) s=(hasS l s || hasS [a] s):=by
 unfold addS
 split
 · rename_i h
   rw [hasS_one]
   by_cases e:s=a
   · rw [e,h];rfl
   · rw [decide_eq_false e,Bool.or_false]
 · rw [hasS_append]
theorem set_wp {cfg:Cfg} (hw:Plain cfg 83) {H:Hp} {r imm:Nat} {x:List (List (List UInt8))} (hg:H.get r=some (.cells (x.map lstS) imm true)) (hr:r < H.next) (hx:rwOk x) :
   WpCall Try.prog cfg 83 [.sl r 0 x.length 1] H fun v H'=>v=.map H.next ∧ (∃ l,H'.get H.next=some (.map (bEs l)) ∧ ∀ s,hasS l s=hasS x.flatten s) ∧ (∀ k,k < H.next → H'.get k=H.get k) ∧ H.next < H'.next:=by
 obtain ⟨hx1,hx2⟩:=hx
 have hnm:=aeval_nm
 refine WpCall.slim (M:=26) (rs:=[.tmp 2]) (hw.call _) hw.ice hw.froz Try.func83 rfl rfl code83.2 rfl ?_;dsimp only [code83,envOf,Nat.reduceAdd]
 repeat' (first
    | (apply Rx.nl ?_;clear hK K)|apply Rx.o ?_|apply Rx.on ?_|(apply Rx.cd (fun hb hbp=>?_) (fun hb hbp=>?_) <;> try (cases hb;done))|apply Wp.seq ?_|(apply Wp.ops' fun K hK=>?_)|apply Wp.block ?_|apply Rx.sk ?_|apply Rx.rt ?_|apply Rx.xt ?_)
 refine Wp.forI [2,3,9,10] [] 11 x.length (fun i E H2=>(∃ l,H2.get H.next=some (.map (bEs l)) ∧ ∀ s,hasS l s=hasS (x.take i).flatten s) ∧ ∀ k,k < H.next → H2.get k=H.get k) eE ⟨⟨[],by rw [Hp.get_alloc,if_pos (by rfl)];rfl,fun s=>rfl⟩,fun k hk=>by rw [Hp.get_alloc,if_neg (by omega)]⟩ ?_
 rintro i E H2 hi hcE hrH hnH hsI ⟨⟨l,hm,hl⟩,hold⟩
 (try simp only [forall_cons,forall_nil,and_true,sB,sO,Nat.reduceBEq,Nat.reduceAdd,Nat.reduceLeDiff,tyF, *] at hcE)
 (try simp only [forall_cons,forall_nil,and_true,sB,sO,Nat.reduceBEq,Nat.reduceAdd,Nat.reduceLeDiff,tyF, *] at hrH)
 (try simp only [Hp.next_alloc,Hp.next_set,H0_next,Nat.zero_add,Nat.reduceAdd] at hnH)
 repeat' (first
    | (apply Rx.nl ?_;clear hK K)|apply Rx.o ?_|apply Rx.on ?_|(apply Rx.cd (fun hb hbp=>?_) (fun hb hbp=>?_) <;> try (cases hb;done))|apply Wp.seq ?_|(apply Wp.ops' fun K hK=>?_)|apply Wp.block ?_|apply Rx.sk ?_|apply Rx.rt ?_|apply Rx.xt ?_)
 · have hlt : i < x.length := by simpa using hb
   have hgx:x[i]?=some x[i]:=List.getElem?_eq_getElem hlt
   have hsm:=hx2 _ (List.getElem_mem hlt)
   have hg2:H2.get r=some (.cells (x.map lstS) imm true):=by rw [hold r hr];exact hg
   have htk:(x.take (i + 1)).flatten=(x.take i).flatten ++ x[i]:=by rw [List.take_add_one,hgx,List.flatten_append];simp
   generalize x[i]=row at *
   repeat' (first
      | (apply Rx.nl ?_;clear hK K)|apply Ry.o ?_|apply Wp.seq ?_|(apply Wp.ops' fun K hK=>?_)|apply Wp.block ?_|apply Rx.sk ?_|apply Rx.rt ?_|apply Rx.xt ?_)
   refine Wp.forI [2,3,9,10,11,15,16] [] 17 row.length (fun j E H3=>(∃ l,H3.get H.next=some (.map (bEs l)) ∧ ∀ s,hasS l s=hasS ((x.take i).flatten ++ row.take j) s) ∧ ∀ k,k < H.next → H3.get k=H.get k) eE ⟨⟨l,hm,fun s=>by rw [hl,List.take_zero,List.append_nil]⟩,hold⟩ ?_
   clear hm hl l hold hg2
   rintro j E3 H3 hj hcE hrH hnH hsI ⟨⟨l,hm,hl⟩,hold⟩
   (try simp only [forall_cons,forall_nil,and_true,sB,sO,Nat.reduceBEq,Nat.reduceAdd,Nat.reduceLeDiff,tyF, *] at hcE)
   (try simp only [forall_cons,forall_nil,and_true,sB,sO,Nat.reduceBEq,Nat.reduceAdd,Nat.reduceLeDiff,tyF, *] at hrH)
   (try simp only [Hp.next_alloc,Hp.next_set,H0_next,Nat.zero_add,Nat.reduceAdd] at hnH)
   repeat' (first
      | (apply Rx.nl ?_;clear hK K)|apply Rx.o ?_|apply Rx.on ?_|(apply Rx.cd (fun hb hbp=>?_) (fun hb hbp=>?_) <;> try (cases hb;done))|apply Wp.seq ?_|(apply Wp.ops' fun K hK=>?_)|apply Wp.block ?_|apply Rx.sk ?_|apply Rx.rt ?_|apply Rx.xt ?_)
   · have hlt2 : j < row.length := by simpa using hb
     have hgx2:row[j]?=some row[j]:=List.getElem?_eq_getElem hlt2
     have hup:=upd_bEs hm row[j]
     have htk2:row.take (j + 1)=row.take j ++ [row[j]]:=by rw [List.take_add_one,hgx2];rfl
     repeat' (first
        | (apply Rx.nl ?_;clear hK K)|apply Rx.o ?_|apply Rx.on ?_|(apply Rx.cd (fun hb hbp=>?_) (fun hb hbp=>?_) <;> try (cases hb;done))|apply Wp.seq ?_|(apply Wp.ops' fun K hK=>?_)|apply Wp.block ?_|apply Rx.sk ?_|apply Rx.rt ?_|apply Rx.xt ?_)
     refine ⟨by omega,eL,eL,eN,(by simp only [sB,Nat.reduceBEq, *];exact i64_succ (n:=row.length) (by omega) (by omega)),?_⟩
     refine ⟨⟨addS l row[j],by rw [Hp.get_set,if_pos (by rfl)],fun s=>?_⟩,fun k hk=>by rw [Hp.get_set,if_neg (by omega)];exact hold k hk⟩
     rw [hasS_addS,hl,htk2,← List.append_assoc,hasS_append ((x.take i).flatten ++ row.take j)]
   · have hje : j = row.length := by simp at hb; omega
     repeat' (first
        | (apply Rx.nl ?_;clear hK K)|apply Rx.o ?_|apply Rx.on ?_|(apply Rx.cd (fun hb hbp=>?_) (fun hb hbp=>?_) <;> try (cases hb;done))|apply Wp.seq ?_|(apply Wp.ops' fun K hK=>?_)|apply Wp.block ?_|apply Rx.sk ?_|apply Rx.rt ?_|apply Rx.xt ?_)
     refine ⟨by omega,eL,eL,eN,(by simp only [sB,Nat.reduceBEq, *];exact i64_succ (n:=x.length) (by omega) (by omega)),?_⟩
     exact ⟨⟨l,hm,fun s=>by rw [hl,htk,hje,List.take_length]⟩,hold⟩
 · repeat' (first
      | (apply Rx.nl ?_;clear hK K)|apply Rx.o ?_|apply Rx.on ?_|(apply Rx.cd (fun hb hbp=>?_) (fun hb hbp=>?_) <;> try (cases hb;done))|apply Wp.seq ?_|(apply Wp.ops' fun K hK=>?_)|apply Wp.block ?_|apply Rx.sk ?_|apply Rx.rt ?_|apply Rx.xt ?_)
   all_goals (refine ⟨eI,_,eR,?_⟩;try simp only [oneOr])
   have hie:i=x.length:=by simp at hb;omega
   refine ⟨trivial,⟨l,hm,fun s=>by rw [hl,hie,List.take_length]⟩,hold,by omega⟩
structure Rs where
 r12:Nat
 mv:Nat
 r5:Nat
 ma:Nat
 r6:Nat
 mf:Nat
 r9:Nat
structure RsOk (X:Rs) (vs an:List (List UInt8)) (fm:List (Nm × Int)) (H:Hp):Prop where
 b12:H.get X.r12=some (.cells [.map X.mv] 0 true)
 bv:∃ l,H.get X.mv=some (.map (bEs l)) ∧ ∀ s,hasS l s=hasS vs s
 b5:H.get X.r5=some (.cells [.map X.ma] 0 true)
 ba:∃ l,H.get X.ma=some (.map (bEs l)) ∧ ∀ s,hasS l s=hasS an s
 b6:H.get X.r6=some (.cells [.map X.mf] 0 true)
 bf:H.get X.mf=some (.map (vEs fm))
structure RsLt (X:Rs) (n:Nat):Prop where
 l12:X.r12 < n
 lv:X.mv < n
 l5:X.r5 < n
 la:X.ma < n
 l6:X.r6 < n
 lf:X.mf < n
structure RsNe (X:Rs):Prop where
 l12:X.r12 ≠ X.r9
 lv:X.mv ≠ X.r9
 l5:X.r5 ≠ X.r9
 la:X.ma ≠ X.r9
 l6:X.r6 ≠ X.r9
 lf:X.mf ≠ X.r9
theorem RsOk.keep {X:Rs} {vs an:List (List UInt8)} {fm:List (Nm × Int)} {H H':Hp} (h:RsOk X vs an fm H) (h12:H'.get X.r12=H.get X.r12) (hv:H'.get X.mv=H.get X.mv) (h5:H'.get X.r5=H.get X.r5) (ha:H'.get X.ma=H.get X.ma) (h6:H'.get X.r6=H.get X.r6) (hf:H'.get X.mf=H.get X.mf):RsOk X vs an fm H' where
 b12:=by rw [h12];exact h.b12
 bv:=by rw [hv];exact h.bv
 b5:=by rw [h5];exact h.b5
 ba:=by rw [ha];exact h.ba
 b6:=by rw [h6];exact h.b6
 bf:=by rw [hf];exact h.bf
theorem RsOk.low {X:Rs} {vs an:List (List UInt8)} {fm:List (Nm × Int)} {H H':Hp} {n:Nat} (h:RsOk X vs an fm H) (hl:RsLt X n) (k:Low n H H'):RsOk X vs an fm H':=
 h.keep (k _ hl.l12) (k _ hl.lv) (k _ hl.l5) (k _ hl.la) (k _ hl.l6) (k _ hl.lf)
theorem res1_wp {cfg:Cfg} (hw:Plain cfg 84) {X:Rs} {vs an:List (List UInt8)} {fm:List (Nm × Int)} {base:Nat} (hl:RsLt X base) {I:Hp → Prop} (hI:OfLow base I) (hR:∀ H,I H → RsOk X vs an fm H) :
   VisitE cfg base I 84 [.ptr X.r12 0,.ptr X.r5 0] fun x _=>defX vs an x:=by
 intro x d H hz hbase hi
 obtain ⟨h12,⟨lv,hv1,hv2⟩,h5,⟨la,ha1,ha2⟩,h6,hf⟩:=hR H hi
 have l12:=hl.l12
 have llv:=hl.lv
 have l5:=hl.l5
 have lla:=hl.la
 have g12:(H.alloc (.cells x.cells 0 true)).get X.r12=some (.cells [.map X.mv] 0 true):=by rw [Hp.get_alloc,if_neg (by omega)];exact h12
 have g5:(H.alloc (.cells x.cells 0 true)).get X.r5=some (.cells [.map X.ma] 0 true):=by rw [Hp.get_alloc,if_neg (by omega)];exact h5
 have gv:(H.alloc (.cells x.cells 0 true)).get X.mv=some (.map (bEs lv)):=by rw [Hp.get_alloc,if_neg (by omega)];exact hv1
 have ga:(H.alloc (.cells x.cells 0 true)).get X.ma=some (.map (bEs la)):=by rw [Hp.get_alloc,if_neg (by omega)];exact ha1
 have kv:=look_bEs gv x.name
 have ka:=look_bEs ga x.name
 rw [hv2] at kv
 rw [ha2] at ka
 clear h12 h5 hv1 ha1 gv ga hv2 ha2 hf h6
 have e12:(X.r12 == H.next)=false:=ne_beq (by omega)
 have e5:(X.r5 == H.next)=false:=ne_beq (by omega)
 simp only [List.append_nil,List.cons_append,List.nil_append]
 refine WpCall.slim (M:=27) (rs:=[.tmp 6]) (hw.call _) hw.ice hw.froz Try.func84 rfl rfl code84.2 rfl ?_;dsimp only [code84,envOf,Nat.reduceAdd]
 repeat' (first
    | (apply Rx.nl ?_;clear hK K)|apply Rx.o ?_|apply Rx.gu ?_|(apply Rx.gd (fun hg hgp=>?_) (fun hg hgp=>?_) <;> try (cases hg;done))|apply Wp.seq ?_|(apply Wp.ops' fun K hK=>?_)|apply Rx.rt ?_)
 all_goals
   all_goals (refine ⟨eI,_,eR,?_⟩;try simp only [oneOr])
   refine ⟨?_,(FrB.refl _ _).alloc _,hI _ _ hi ((Low.refl _ _).alloc hbase _)⟩
   rw [defX]
   (try simp only [Bool.not_eq_true',Bool.not_eq_false'] at *);simp only [*,decide_true,decide_false,Bool.false_or,Bool.or_false,Bool.true_or,Bool.or_true,Bool.false_and,Bool.and_false,Bool.true_and,Bool.and_true,Bool.not_true,Bool.not_false,if_true,if_false,Int.reduceEq]
theorem keyS4:keyKind Try.prog 9=some .string:=by kernel_rfl
def wI (w:Bool):Int:=if w=true then 5 else 0
theorem res2_wp {cfg:Cfg} (hw:Plain cfg 85) {X:Rs} {vs an:List (List UInt8)} {fm:List (Nm × Int)} {base:Nat} (hl:RsLt X base) (h9:X.r9 < base) (hne:RsNe X) :
   VisitS cfg base (fun (w:Bool) H=>RsOk X vs an fm H ∧ H.get X.r9=some (.cells [.int .i64 (wI w)] 0 true)) 85 [.ptr X.r12 0,.ptr X.r5 0,.ptr X.r6 0,.ptr X.r9 0] (rsS fm vs an):=by
 intro x d w H hz hbase hi
 obtain ⟨hok,hw9⟩:=hi
 have hok':=hok
 obtain ⟨h12,⟨lv,hv1,hv2⟩,h5,⟨la,ha1,ha2⟩,h6,hf⟩:=hok
 have l12:=hl.l12
 have llv:=hl.lv
 have l5:=hl.l5
 have lla:=hl.la
 have l6:=hl.l6
 have llf:=hl.lf
 have hlow:Low base H (H.alloc (.cells x.cells 0 true)):=(Low.refl _ _).alloc hbase _
 have g12:(H.alloc (.cells x.cells 0 true)).get X.r12=some (.cells [.map X.mv] 0 true):=by rw [hlow _ l12];exact h12
 have g5:(H.alloc (.cells x.cells 0 true)).get X.r5=some (.cells [.map X.ma] 0 true):=by rw [hlow _ l5];exact h5
 have g6:(H.alloc (.cells x.cells 0 true)).get X.r6=some (.cells [.map X.mf] 0 true):=by rw [hlow _ l6];exact h6
 have g9:(H.alloc (.cells x.cells 0 true)).get X.r9=some (.cells [.int .i64 (wI w)] 0 true):=by rw [hlow _ h9];exact hw9
 have gv:(H.alloc (.cells x.cells 0 true)).get X.mv=some (.map (bEs lv)):=by rw [hlow _ llv];exact hv1
 have ga:(H.alloc (.cells x.cells 0 true)).get X.ma=some (.map (bEs la)):=by rw [hlow _ lla];exact ha1
 have gf:(H.alloc (.cells x.cells 0 true)).get X.mf=some (.map (vEs fm)):=by rw [hlow _ llf];exact hf
 have gb:(H.alloc (.cells x.cells 0 true)).get H.next=some (.cells x.cells 0 true):=by rw [Hp.get_alloc,if_pos (by rfl)]
 have kv:=look_bEs gv x.name
 have ka:=look_bEs ga x.name
 have kf:=look_ok (P:=Try.prog) (t:=81) Try.underlying81 keyS4 (by kernel_rfl) gf x.to
 rw [hv2] at kv
 rw [ha2] at ka
 have hlen:=exprsSz_len x.args
 have hsz:=x.sz_eq
 have hok1:RsOk X vs an fm (H.alloc (.cells x.cells 0 true)):=hok'.low hl hlow
 have hx0:∀ a b,Ab.extract (.tup [a,b]) 0=some a:=fun _ _=>rfl
 have hx1:∀ a b,Ab.extract (.tup [a,b]) 1=some b:=fun _ _=>rfl
 have hfr:FrB base H (H.alloc (.cells x.cells 0 true)):=(FrB.refl _ _).alloc _
 have hfr2:FrB base H ((H.alloc (.cells x.cells 0 true)).set X.r9 (.cells [.int .i64 5] 0 true)):=hfr.set (.inr h9) _
 have hok2:RsOk X vs an fm ((H.alloc (.cells x.cells 0 true)).set X.r9 (.cells [.int .i64 5] 0 true)):=hok1.keep (by rw [Hp.get_set,if_neg hne.l12]) (by rw [Hp.get_set,if_neg hne.lv]) (by rw [Hp.get_set,if_neg hne.l5]) (by rw [Hp.get_set,if_neg hne.la]) (by rw [Hp.get_set,if_neg hne.l6]) (by rw [Hp.get_set,if_neg hne.lf])
 have hw2:((H.alloc (.cells x.cells 0 true)).set X.r9 (.cells [.int .i64 5] 0 true)).get X.r9=some (.cells [.int .i64 (wI true)] 0 true):=by rw [Hp.get_set,if_pos rfl];rfl
 have s12:((H.alloc (.cells x.cells 0 true)).set X.r9 (.cells [.int .i64 5] 0 true)).get X.r12=some (.cells [.map X.mv] 0 true):=hok2.b12
 have sb:((H.alloc (.cells x.cells 0 true)).set X.r9 (.cells [.int .i64 5] 0 true)).get H.next=some (.cells x.cells 0 true):=by rw [Hp.get_set,if_neg (by omega)];exact gb
 have sv:lookupA Try.prog ((H.alloc (.cells x.cells 0 true)).set X.r9 (.cells [.int .i64 5] 0 true)) 140 (.map X.mv) (.str x.name) false=some (.bool (hasS vs x.name)):=by
   obtain ⟨l,q1,q2⟩:=hok2.bv
   rw [look_bEs q1,q2]
 clear h12 hv1 hv2 h5 ha1 ha2 h6 hf gv ga gf hok' hw9 hlow
 have e12:(X.r12 == H.next)=false:=ne_beq (by omega)
 have e5:(X.r5 == H.next)=false:=ne_beq (by omega)
 have e6:(X.r6 == H.next)=false:=ne_beq (by omega)
 have e9:(X.r9 == H.next)=false:=ne_beq (by omega)
 have d12:(X.r12 == X.r9)=false:=ne_beq hne.l12
 have dn:(H.next == X.r9)=false:=ne_beq (by omega)
 simp only [List.append_nil,List.cons_append,List.nil_append]
 refine WpCall.slim (M:=49) (rs:=[.tmp 8]) (hw.call _) hw.ice hw.froz Try.func85 rfl rfl code85.2 rfl ?_;dsimp only [code85,envOf,Nat.reduceAdd]
 repeat' (first
    | (apply Rx.nl ?_;clear hK K)|apply Rx.o ?_|apply Rx.on ?_|(apply Rx.gd (fun hg hgp=>?_) (fun hg hgp=>?_) <;> try (cases hg;done))|(apply Rx.cd (fun hb hbp=>?_) (fun hb hbp=>?_) <;> try (cases hb;done))|apply Wp.seq ?_|(apply Wp.ops' fun K hK=>?_)|apply Wp.block ?_|apply Rx.sk ?_|apply Rx.rt ?_)
 all_goals
   all_goals (refine ⟨eI,_,eR,?_⟩;try simp only [oneOr])
   first
   | refine ⟨?_,hfr,hok1,?_⟩
   | refine ⟨?_,hfr2,hok2,?_⟩
   all_goals
     (try rw [g9])
     (try rw [hw2])
     clear g12 g5 g6 g9 kv ka kf hx0 hx1 gb s12 sb sv hok1 hok2 hfr hfr2 hw2 e12 e5 e6 e9 d12 dn hl hne hlen hsz
     simp_all [rsS,wI]
end Go.Proofs.Ytpbcimfiofmoeaa
