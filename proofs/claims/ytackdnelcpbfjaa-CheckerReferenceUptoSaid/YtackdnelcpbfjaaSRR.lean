/- Parts: MuQf, MuQ, OrdM, AbArg, AbRaw, Seeds, RawP. -/
import Derived.Deep.Slices
import Derived.Test.YtackdnelcpbfjaaRows
import Derived.Test.YtackdnelcpbfjaaSRQ
import Derived.WideKeyArgs
import Derived.WideShapes
set_option linter.unusedSimpArgs false
set_option linter.unusedVariables false
set_option linter.unusedSectionVars false
set_option linter.defProp false
set_option maxHeartbeats 32000000
namespace Go.Proofs.Ytackdnelcpbfjaa
set_option maxRecDepth 20000
set_option maxRecDepth 20000
open Go Go.Ab
namespace tyMuQf
def tyF:=And.intro @tq2 (And.intro @tq3 (And.intro @tq5 (And.intro @tq9 (And.intro @tq22 (And.intro @tq23 (And.intro @tq25 (And.intro @tq35 (And.intro @tq36 (And.intro @tq37 (And.intro @tq39 (And.intro @tq41 (And.intro @tq44 (And.intro @tq46 (And.intro @tq84 (And.intro @cv3_5 (And.intro @bsU1M (And.intro @bEn (@aggE5))))))))))))))))))
end tyMuQf
open tyMuQf
theorem bAr2 (s:List UInt8) (n:Int):buildA Try.prog 44 [(0,.str s),(1,.int .i64 n)]=some (.agg [.str s,.int .i64 n]):=bldAr s n
theorem bsA1 (H:Hp) (s:List UInt8) (n:Int):buildSliceA Try.prog H 22 1 [(0,.agg [.str s,.int .i64 n])]=some (.sl H.next 0 1 2,H.alloc (.cells [.str s,.int .i64 n] 0 true)):=by kernel_rfl
theorem bF1 (s:List UInt8):buildA Try.prog 41 [(0,.str s)]=some (.agg [.str s,.nilS,.nilS,.nilS,.int .i64 0,.int .i64 0,.str [],.int .i64 0,.nilS]):=by kernel_rfl
theorem bF2 (s:List UInt8) (a b c d e:AV):buildA Try.prog 41 [(0,.str s),(4,.agg [a,b,c,d,e])]=some (.agg [.str s,.nilS,.nilS,.nilS,a,b,c,d,e]):=by kernel_rfl
theorem bsFx (H:Hp) (a0 a1 a2 a3 a4 a5 a6 a7 a8:AV):buildSliceA Try.prog H 23 1 [(0,.agg [a0,a1,a2,a3,a4,a5,a6,a7,a8])]=some (.sl H.next 0 1 9,H.alloc (.cells [a0,a1,a2,a3,a4,a5,a6,a7,a8] 0 true)):=by kernel_rfl
theorem bs2s (H:Hp) (a b:List UInt8):buildSliceA Try.prog H 35 2 [(0,.str a),(1,.str b)]=some (.sl H.next 0 2 1,H.alloc (.cells ([a,b].map .str) 0 true)):=by kernel_rfl
theorem fu_w {S:Nat → Prop} {n:Nat} {H:Hp} (s:List UInt8) (k x o:Int) (nm:List UInt8):CellsW S (n + 1) H [.str s,.nilS,.nilS,.nilS,.int .i64 k,.int .i64 x,.str nm,.int .i64 o,.nilS] (Fu.mk s [] [] [] (.mk k x nm o [])).cells:=
 fu_node (p:=.nilS) (l:=.nilS) (b:=.nilS) (v:=[.int .i64 k,.int .i64 x,.str nm,.int .i64 o,.nilS]) s rfl .nilS .nilS .nilS (ex_leaf k x o nm)
theorem fns_push {lo P r n N:Nat} {H Hb:Hp} {vb:AV} {fs:List Fu} (h:RowOwn (fun q=>lo ≤ q ∧ q ≠ r ∧ q ≠ P) n H 9 vb (fs.map Fu.cells)) (hlo:lo ≤ H.next) (hPl:P < H.next) (hrl:r < H.next) (hn:H.next ≤ Hb.next) (hk:∀ q,q < H.next → Hb.get q=H.get q) {t:Nat} {row:List AV} {w:Fu} (hg:Hb.get t=some (.cells row 0 true)) (hrow:row.length=9) (hone:row.all AV.one=true) (hw:∀ H',CellsW (fun q=>H.next ≤ q ∧ q < Hb.next) n H' row w.cells) (hN:fs.length=N) (hl:N < 2 ^ 30) :
   ∃ H', appendA Try.prog false Hb 23 23 vb (.sl t 0 1 9) = some (.sl Hb.next 0 (N + 1) 9, H') ∧ H'.next = Hb.next + 1 ∧ (∀ q, q < H.next → (q < lo ∨ q = r ∨ q = P) → H'.get q = H.get q) ∧
     ∀ H'':Hp,H''.next=H'.next → (∀ q,q ≠ P → H''.get q=H'.get q) → RowOwn (fun q=>lo ≤ q ∧ q ≠ r ∧ q ≠ P) n H'' 9 (.sl Hb.next 0 (N + 1) 9) ((fs ++ [w]).map Fu.cells):=by
 classical
 have h':RowOwn (fun q=>(if lo ≤ q ∧ q ≠ r ∧ q ≠ P then 1 else 0)=1) n H 9 vb (fs.map Fu.cells):=h.keep (fun q _ hq=>if_pos hq) (Nat.le_refl _) fun _ _ _=>rfl
 have hz:∃ zz,zeroA Try.prog 41=some zz ∧ zz.length=9:=⟨_,zr41,rfl⟩
 obtain ⟨zz,hz,hzz⟩:=hz
 obtain ⟨H',flat,imm',a1,b1,b2,b3,a2,a3,a4⟩:=RowOwn.pushX (P:=Try.prog) (t:=23) Try.underlying23 sz41 bt41 hz hzz (by kernel_rfl) h' hn (fun q h4 _=>hk q h4) hg hrow hone (by rw [List.length_map,hN,show maxRoom=70368744177664 from rfl];omega) (by rw [List.length_map,hN,show maxRoom=70368744177664 from rfl];omega)
 rw [List.length_map,hN] at a1 a4 b1 b2
 refine ⟨H',a1,a2,fun q h1 h2=>?_,fun H'' h4 h5=>?_⟩
 · rw [a3 q (by omega) (.inr (by rw [if_neg (by omega)];decide)),hk q h1]
 · have := a4 H'' P row w.cells (by omega) (fun q h6 _ => h5 q h6) (by rw [if_neg (fun h => h.2.2 rfl)]; decide) hPl (by rw [h5 _ (by omega)]; exact b3) hrow (hw Hb)
   rw [List.map_append,List.map_cons,List.map_nil]
   refine this.keep (fun q _ hq=>?_) (Nat.le_refl _) fun _ _ _=>rfl
   by_cases hc:H.next ≤ q
   · exact ⟨by omega,by omega,by omega⟩
   · rw [if_neg hc] at hq
     by_cases hd:lo ≤ q ∧ q ≠ r ∧ q ≠ P
     · exact hd
     · rw [if_neg hd] at hq;cases hq
theorem fnsSz_app:∀ a b:List Fu,fnsSz (a ++ b)=fnsSz a + fnsSz b
 | [],b=>by rw [List.nil_append,fnsSz];omega
 | x :: a,b=>by rw [List.cons_append,fnsSz,fnsSz,fnsSz_app a b];omega
theorem arrsSz_app:∀ a b:List Ar,arrsSz (a ++ b)=arrsSz a + arrsSz b
 | [],b=>by rw [List.nil_append,arrsSz];omega
 | x :: a,b=>by rw [List.cons_append,arrsSz,arrsSz,arrsSz_app a b];omega
theorem ordP_good {i:Nat} {x y:Int} {f g:Fu} (h1:f.sz < 2 ^ 24) (h2:g.sz < 2 ^ 24) (h3:f.name ≠ zzN) (h4:g.name ≠ zzN):(ordP i x y f g).sz < 2 ^ 26 ∧ (∀ f' ∈ (ordP i x y f g).funcs,f'.name ≠ zzN) ∧ ∀ a ∈ (ordP i x y f g).arrays,a.name ≠ zzN:=by
 refine ⟨?_,?_,?_⟩
 · cases i <;> simp only [ordP,pr2,arG2,Pr.sz,arrsSz,fnsSz,List.length_cons,List.length_nil] <;> omega
 · intro f' hf'
   cases i <;> simp only [ordP,pr2,List.mem_cons,List.not_mem_nil,or_false] at hf' <;> rcases hf' with rfl|rfl <;> assumption
 · intro a ha
   cases i <;> simp only [ordP,pr2,arG2,List.mem_cons,List.not_mem_nil,or_false] at ha <;> rcases ha with rfl|rfl <;> (intro e;cases e)
theorem good_addF {p:Pr} {l:List Fu} (h:p.sz < 2 ^ 26 ∧ (∀ f' ∈ p.funcs,f'.name ≠ zzN) ∧ ∀ a ∈ p.arrays,a.name ≠ zzN) (h1:fnsSz l < 2 ^ 20) (h2:∀ f' ∈ l,f'.name ≠ zzN):MutG ⟨p.arrays,p.funcs ++ l⟩:=by
 refine ⟨?_,fun f hf=>?_,h.2.2⟩
 · have h3 := h.1
   simp only [Pr.sz,fnsSz_app] at h3 ⊢;omega
 · rcases List.mem_append.1 hf with hf | hf
   · exact h.2.1 f hf
   · exact h2 f hf
theorem good_addA {p:Pr} {a:Ar} (h:p.sz < 2 ^ 26 ∧ (∀ f' ∈ p.funcs,f'.name ≠ zzN) ∧ ∀ a ∈ p.arrays,a.name ≠ zzN) (h1:a.name.length ≤ 17) (h2:a.name ≠ zzN):MutG ⟨p.arrays ++ [a],p.funcs⟩:=by
 refine ⟨?_,h.2.1,fun f hf=>?_⟩
 · have h3 := h.1
   simp only [Pr.sz,arrsSz_app,arrsSz] at h3 ⊢;omega
 · rcases List.mem_append.1 hf with hf | hf
   · exact h.2.2 f hf
   · simp at hf;subst hf;exact h2
def vFs (j:Nat):List Fu:=(List.range j).map fun j=>⟨[104,UInt8.ofNat (97 + j)],[],[],[],.mk 1 0 [] 0 []⟩
theorem vFs_succ (j:Nat):vFs (j + 1)=vFs j ++ [⟨[104,UInt8.ofNat (97 + j)],[],[],[],.mk 1 0 [] 0 []⟩]:=by simp [vFs,List.range_succ]
theorem vFs_len (j:Nat):(vFs j).length=j:=by simp [vFs]
theorem vFs_sz:∀ j,fnsSz (vFs j) ≤ 30 * j
 | 0=>by simp [vFs,fnsSz]
 | j + 1 => by
   have:=vFs_sz j
   rw [vFs_succ,fnsSz_app]
   simp only [fnsSz,Fu.sz,strsSz,stmtsSz,Ex.sz,exprsSz,List.length_cons,List.length_nil]
   omega
theorem vFs_nm (j:Nat):∀ f ∈ vFs j,f.name ≠ zzN:=by
 intro f hf
 simp only [vFs,List.mem_map,List.mem_range] at hf
 obtain ⟨k,_,rfl⟩:=hf
 intro e
 simp [zzN] at e
theorem ordP_len {i:Nat} {x y:Int} {f g:Fu}:(ordP i x y f g).funcs.length=2:=by cases i <;> rfl
theorem ordP_lenA {i:Nat} {x y:Int} {f g:Fu}:(ordP i x y f g).arrays.length=2:=by cases i <;> rfl
set_option maxRecDepth 100000 in
theorem mp6 {lG : List En} (hG : MutL lG) {i : Nat} {a h k : Int} {lo m P : Nat} {Hs H : Hp} {ra rf : Nat} {x y : Int} {f g : Fu} {pf lf bf : AV} {vf : List AV} {pg lg bg : AV} {vg : List AV} {E : Env} (hat : AtM i a h k lo m P Hs H ra rf x y f g pf lf bf vf pg lg bg vg E) (hh : h = 6) : Wp Try.prog (cfgN pls lG) 12 285 mpBody E H (TailM lo m P Hs) := by
  obtain ⟨⟨pt,b,b',hX,hPt⟩,hi,hm,loP,ltP,gp,old,fs,gs,fn,gn,hpi,k2,k6,k7,k8,k9,k27⟩:=hat
  have hkeep:(cfgN pls lG).keep 12=false:=rfl
  subst hh
  obtain ⟨v0,v1,v2,v3,v4,rfl⟩:=len5 hX.F.len
  obtain ⟨w0,w1,w2,w3,w4,rfl⟩:=len5 hX.G.len
  obtain ⟨z0,z1,z2,z3,z4⟩:=all5 hX.F.one
  have ltA:=hX.ltA
  have ltF:=hX.ltF
  have hlo:=hX.hlo
  have hbb:=hX.hb
  have lrf:=hX.lrf
  have lra:=hX.lra
  have rfP:rf ≠ P:=fun e=>by rw [e] at lrf;omega
  have raP:ra ≠ P:=fun e=>by rw [e] at lra;omega
  have hrr:=hX.ne
  have lof:=hX.lo_of (q:=rf) (by omega)
  have loa:=hX.lo_of (q:=ra) (by omega)
  have e1:(rf == H.next)=false:=ne_beq (by omega)
  have e2:(rf == H.next + 1)=false:=ne_beq (by omega)
  have e3:(rf == H.next + 2)=false:=ne_beq (by omega)
  have e4:(H.next == rf)=false:=ne_beq (by omega)
  have e5:(rf == P)=false:=ne_beq rfP
  have e6:(P == rf)=false:=ne_beq (Ne.symm rfP)
  have e7:(P == H.next)=false:=ne_beq (by omega)
  have e8:(P == H.next + 1)=false:=ne_beq (by omega)
  have e9:(ra == H.next)=false:=ne_beq (by omega)
  have e10:(ra == H.next + 1)=false:=ne_beq (by omega)
  have hr:=pickG_range (n:=k) (m:=5) (by omega) (by omega)
  have hr0:=hr.1
  have hnm:=nm_at nmsF6 (n:=pickG k 5) (by show _ < 5;omega)
  have hix:=fun r=>ixSt r 5 hr.1 (by omega)
  have hbs:=fun H=>bs5s H [97] [99] [120] [102] [111,117,116]
  change ∀ H,buildSliceA _ H _ _ _=some (_,H.alloc (.cells (nmsF6.map .str) 0 true)) at hbs
  have hgood:=ordP_good (i:=i) (x:=x) (y:=y) fs gs fn gn
  have hA:=(hX.arsP.keep (S':=fun q=>lo ≤ q ∧ q=ra) (fun q _ hq=>⟨by omega,hq⟩) (Nat.le_refl _) fun _ _ _=>rfl).up (show 14 + 1 ≤ 50 by omega)
  have hFn:=(hX.fnsP.keep (S':=fun q=>lo ≤ q ∧ q ≠ ra ∧ q ≠ P) (fun q _ hq=>⟨hX.lo_of hq.1,hq.2,fun e=>hq.1 (by rw [e];exact hPt)⟩) (Nat.le_refl _) fun _ _ _=>rfl).up (show 14 + 1 ≤ 50 by omega)
  have hnl:=nmx_len (l:=nmsF6) (by decide) (pickG k 5).toNat
  have hnz:=nmx_ne (l:=nmsF6) (by decide) (pickG k 5).toNat
  generalize hs:nmsF6.getD (pickG k 5).toNat []=s at *
  classical
  have h':RowOwn (fun q=>(if q=ra then 1 else 0)=1) 15 H 2 (.sl ra 0 2 2) ((ordP i x y f g).arrays.map Ar.cells):=hX.arsP.keep (fun q _ hq=>if_pos hq) (Nat.le_refl _) fun _ _ _=>rfl
  obtain ⟨zz,hz,hzz⟩:∃ zz,zeroA Try.prog 44=some zz ∧ zz.length=2:=⟨_,zr44,rfl⟩
  obtain ⟨H',flat,imm',a1,b1,b2,b3,a2,a3,a4⟩:=RowOwn.pushX (P:=Try.prog) (t:=22) Try.underlying22 sz44 bt44 hz hzz (by kernel_rfl) h' (Hb:=(H.alloc (.cells (nmsF6.map .str) 0 true)).alloc (.cells [.str s,.int .i64 3] 0 true)) (by simp only [Hp.next_alloc];omega) (fun q h1 _=>by rw [alloc_old (by simp only [Hp.next_alloc];omega),alloc_old h1]) (r:=H.next + 1) (row:=[.str s,.int .i64 3]) (by rw [Hp.get_alloc,if_pos (by rfl)]) rfl rfl (by rw [List.length_map,ordP_lenA,show maxRoom=70368744177664 from rfl];decide +kernel) (by rw [List.length_map,ordP_lenA,show maxRoom=70368744177664 from rfl];decide)
  rw [List.length_map,ordP_lenA] at a1 a4 b1 b2
  simp only [Hp.next_alloc,Nat.add_assoc,Nat.reduceAdd] at a1 a2 a3 a4 b3
  have fr:∀ q,q < H.next → q ≠ ra → H'.get q=H.get q:=fun q h1 h2=>by
    rw [a3 q (by omega) (.inr (by rw [if_neg h2];decide)),alloc_old (by simp only [Hp.next_alloc];omega),alloc_old h1]
  have gr:=(fr P ltP (Ne.symm raP)).trans gp
  rcases hi with rfl|rfl
  all_goals
    simp only [Nat.mul_zero,Nat.mul_one] at k8
    first|have gf:=hX.gf0|have gf:=hX.gf1
    dsimp only [mpBody,scB,scL,scR,code12]
    have gh0:=@bAr2
    have gh1:=@bsA1
    repeat' (first
       | (apply Rx.nl ?_;clear hK K)|apply Ry.o ?_|apply Ry.on ?_|(apply Ry.call ?_;first|refine Rx.k (pick_en hG.pick k 5 (by decide) _) ?_)|(apply Ry.cd (fun hb hbp=>?_) (fun hb hbp=>?_) <;> try (cases hb;done))|apply Wp.seq ?_|(apply Wp.ops' fun K hK=>?_)|(apply Rx.dT 19 [(1,4),(1,9),(2,4),(2,9),(6,9),(8,9)] fun K hK=>?_)|(apply Rx.nq ?_;try intro _)|(apply Rx.nt ?_ ?_ <;> clear hK K)|apply WpT.step ?_|apply WpT.step0 rfl ?_|apply Wp.block ?_)
    · exact eK
    generalize hH7:Hp.set H' P _=H7
    have n7:H7.next=H'.next:=by rw [← hH7];rfl
    have o7:∀ q,q ≠ P → H7.get q=H'.get q:=fun q hq=>by rw [← hH7,Hp.get_set,if_neg hq]
    have g7:=show H7.get P=some _ by rw [← hH7,Hp.get_set,if_pos rfl]
    have hA7:=a4 H7 P [.str s,.int .i64 3] [.str s,.int .i64 3] (by omega) (fun q h1 _=>o7 q h1) (by rw [if_neg (Ne.symm raP)];decide) ltP (by rw [o7 _ (by omega)];exact b3) rfl (.cons (.str _) (.cons (.int _ _) .nil))
    clear hH7
    refine ⟨rfl,eE,eE,_,_,⟨(ordP _ x y f g).arrays ++ [⟨s,3⟩],(ordP _ x y f g).funcs⟩,fun q=>H.next ≤ q ∨ q=ra,g7,by omega,⟨by omega,?_,?_,good_addA hgood hnl hnz⟩,?_⟩
    · rw [List.map_append]
      refine (hA7.keep (fun q h1 h2=>?_) (Nat.le_refl _) fun _ _ _=>rfl).up (by omega)
      by_cases hc:H.next ≤ q
      · exact ⟨by omega,.inl hc⟩
      · rw [if_neg hc] at h2
        by_cases hd:q=ra
        · exact ⟨by omega,.inr hd⟩
        · rw [if_neg hd] at h2;cases h2
    · exact hFn.keep (fun q h1 h2=>⟨h2.1,fun h=>h.elim (fun h=>by omega) h2.2.1,h2.2.2⟩) (by omega) fun q h1 h2=>by rw [o7 q h1.2.2,fr q h2 h1.2.1]
    · intro q h1;rw [o7 q (by omega),fr q (by omega) (by omega)];exact old q h1
set_option maxRecDepth 100000 in
theorem mp17 {lG:List En} (hG:MutL lG) {i:Nat} {a h k:Int} {lo m P:Nat} {Hs H:Hp} {ra rf:Nat} {x y:Int} {f g:Fu} {pf lf bf:AV} {vf:List AV} {pg lg bg:AV} {vg:List AV} {E:Env} (hat:AtM i a h k lo m P Hs H ra rf x y f g pf lf bf vf pg lg bg vg E) (hh:h=17):Wp Try.prog (cfgN pls lG) 12 285 mpBody E H (TailM lo m P Hs):=by
 obtain ⟨⟨pt,b,b',hX,hPt⟩,hi,hm,loP,ltP,gp,old,fs,gs,fn,gn,hpi,k2,k6,k7,k8,k9,k27⟩:=hat
 have hkeep:(cfgN pls lG).keep 12=false:=rfl
 subst hh
 obtain ⟨v0,v1,v2,v3,v4,rfl⟩:=len5 hX.F.len
 obtain ⟨w0,w1,w2,w3,w4,rfl⟩:=len5 hX.G.len
 obtain ⟨z0,z1,z2,z3,z4⟩:=all5 hX.F.one
 have ltA:=hX.ltA
 have ltF:=hX.ltF
 have hlo:=hX.hlo
 have hbb:=hX.hb
 have lrf:=hX.lrf
 have lra:=hX.lra
 have rfP:rf ≠ P:=fun e=>by rw [e] at lrf;omega
 have raP:ra ≠ P:=fun e=>by rw [e] at lra;omega
 have hrr:=hX.ne
 have lof:=hX.lo_of (q:=rf) (by omega)
 have loa:=hX.lo_of (q:=ra) (by omega)
 have e1:(rf == H.next)=false:=ne_beq (by omega)
 have e2:(rf == H.next + 1)=false:=ne_beq (by omega)
 have e3:(rf == H.next + 2)=false:=ne_beq (by omega)
 have e4:(H.next == rf)=false:=ne_beq (by omega)
 have e5:(rf == P)=false:=ne_beq rfP
 have e6:(P == rf)=false:=ne_beq (Ne.symm rfP)
 have e7:(P == H.next)=false:=ne_beq (by omega)
 have e8:(P == H.next + 1)=false:=ne_beq (by omega)
 have e9:(ra == H.next)=false:=ne_beq (by omega)
 have e10:(ra == H.next + 1)=false:=ne_beq (by omega)
 have hr:=pickG_range (n:=k) (m:=2) (by omega) (by omega)
 have hr0:=hr.1
 have hnm:=nm_at nmsF17 (n:=pickG k 2) (by show _ < 2;omega)
 have hix:=fun r=>ixSt r 2 hr.1 (by omega)
 have hbs:=fun H=>bs2s H [102] [104]
 change ∀ H,buildSliceA _ H _ _ _=some (_,H.alloc (.cells (nmsF17.map .str) 0 true)) at hbs
 have hgood:=ordP_good (i:=i) (x:=x) (y:=y) fs gs fn gn
 have hA:=(hX.arsP.keep (S':=fun q=>lo ≤ q ∧ q=ra) (fun q _ hq=>⟨by omega,hq⟩) (Nat.le_refl _) fun _ _ _=>rfl).up (show 14 + 1 ≤ 50 by omega)
 have hFn:=(hX.fnsP.keep (S':=fun q=>lo ≤ q ∧ q ≠ ra ∧ q ≠ P) (fun q _ hq=>⟨hX.lo_of hq.1,hq.2,fun e=>hq.1 (by rw [e];exact hPt)⟩) (Nat.le_refl _) fun _ _ _=>rfl).up (show 14 + 1 ≤ 50 by omega)
 have hnl:=nmx_len (l:=nmsF17) (by decide) (pickG k 2).toNat
 have hnz:=nmx_ne (l:=nmsF17) (by decide) (pickG k 2).toNat
 generalize hs:nmsF17.getD (pickG k 2).toNat []=s at *
 obtain ⟨H',a1,a2,a3,a4⟩:=fns_push hFn hlo ltP ltA (Hb:=(H.alloc (.cells (nmsF17.map .str) 0 true)).alloc (.cells [.str s,.nilS,.nilS,.nilS,.int .i64 0,.int .i64 0,.str [],.int .i64 0,.nilS] 0 true)) (by simp only [Hp.next_alloc];omega) (fun q h1=>by rw [alloc_old (by simp only [Hp.next_alloc];omega),alloc_old h1]) (t:=H.next + 1) (row:=[.str s,.nilS,.nilS,.nilS,.int .i64 0,.int .i64 0,.str [],.int .i64 0,.nilS]) (w:=⟨s,[],[],[],.mk 0 0 [] 0 []⟩) (by rw [Hp.get_alloc,if_pos (by rfl)]) rfl rfl (fun H'=>fu_w (n:=49) s 0 0 0 []) ordP_len (by omega)
 simp only [Hp.next_alloc,Nat.add_assoc,Nat.reduceAdd] at a1 a2 a3 a4
 have gr:=(a3 P ltP (.inr (.inr rfl))).trans gp
 rcases hi with rfl|rfl
 all_goals
   simp only [Nat.mul_zero,Nat.mul_one] at k8
   first|have gf:=hX.gf0|have gf:=hX.gf1
   dsimp only [mpBody,scB,scL,scR,code12]
   have gh0:=@bF1
   have gh1:=@bsFx
   repeat' (first
      | (apply Rx.nl ?_;clear hK K)|apply Ry.o ?_|apply Ry.on ?_|(apply Ry.call ?_;first|refine Rx.k (pick_en hG.pick k 2 (by decide) _) ?_)|(apply Ry.cd (fun hb hbp=>?_) (fun hb hbp=>?_) <;> try (cases hb;done))|apply Wp.seq ?_|(apply Wp.ops' fun K hK=>?_)|(apply Rx.dT 52 [(1,4),(1,9),(2,4),(2,9),(6,9),(8,9)] fun K hK=>?_)|(apply Rx.nq ?_;try intro _)|(apply Rx.nt ?_ ?_ <;> clear hK K)|apply WpT.step ?_|apply WpT.step0 rfl ?_|apply Wp.block ?_)
   · exact eK
   generalize hH7:Hp.set H' P _=H7
   have n7:H7.next=H'.next:=by rw [← hH7];rfl
   have o7:∀ q,q ≠ P → H7.get q=H'.get q:=fun q hq=>by rw [← hH7,Hp.get_set,if_neg hq]
   have g7:=show H7.get P=some _ by rw [← hH7,Hp.get_set,if_pos rfl]
   have hF7:=a4 H7 n7 o7
   clear hH7
   refine ⟨rfl,eE,eE,_,_,⟨(ordP _ x y f g).arrays,(ordP _ x y f g).funcs ++ [⟨s,[],[],[],.mk 0 0 [] 0 []⟩]⟩,fun q=>q=ra,g7,by omega,⟨Ne.symm raP,?_,hF7,good_addF hgood (by simp only [fnsSz,Fu.sz,strsSz,stmtsSz,Ex.sz,exprsSz,List.length_nil];omega) (by intro f' hf';simp at hf';subst hf';exact hnz)⟩,?_⟩
   · exact hA.keep (fun _ _ h=>h) (by omega) fun q h1 h2=>by rw [o7 q (by omega),a3 q h2 (.inr (.inl h1.2))]
   · intro q h1;rw [o7 q (by omega),a3 q (by omega) (.inl h1)];exact old q h1
set_option maxRecDepth 100000 in
theorem mp18 {lG : List En} (hG : MutL lG) {i : Nat} {a h k : Int} {lo m P : Nat} {Hs H : Hp} {ra rf : Nat} {x y : Int} {f g : Fu} {pf lf bf : AV} {vf : List AV} {pg lg bg : AV} {vg : List AV} {E : Env} (hat : AtM i a h k lo m P Hs H ra rf x y f g pf lf bf vf pg lg bg vg E) (hh : h = 18) : Wp Try.prog (cfgN pls lG) 12 285 mpBody E H (TailM lo m P Hs) := by
  obtain ⟨⟨pt,b,b',hX,hPt⟩,hi,hm,loP,ltP,gp,old,fs,gs,fn,gn,hpi,k2,k6,k7,k8,k9,k27⟩:=hat
  have hkeep:(cfgN pls lG).keep 12=false:=rfl
  subst hh
  obtain ⟨v0,v1,v2,v3,v4,rfl⟩:=len5 hX.F.len
  obtain ⟨w0,w1,w2,w3,w4,rfl⟩:=len5 hX.G.len
  obtain ⟨z0,z1,z2,z3,z4⟩:=all5 hX.F.one
  have ltA:=hX.ltA
  have ltF:=hX.ltF
  have hlo:=hX.hlo
  have hbb:=hX.hb
  have lrf:=hX.lrf
  have lra:=hX.lra
  have rfP:rf ≠ P:=fun e=>by rw [e] at lrf;omega
  have raP:ra ≠ P:=fun e=>by rw [e] at lra;omega
  have hrr:=hX.ne
  have lof:=hX.lo_of (q:=rf) (by omega)
  have loa:=hX.lo_of (q:=ra) (by omega)
  have e1:(rf == H.next)=false:=ne_beq (by omega)
  have e2:(rf == H.next + 1)=false:=ne_beq (by omega)
  have e3:(rf == H.next + 2)=false:=ne_beq (by omega)
  have e4:(H.next == rf)=false:=ne_beq (by omega)
  have e5:(rf == P)=false:=ne_beq rfP
  have e6:(P == rf)=false:=ne_beq (Ne.symm rfP)
  have e7:(P == H.next)=false:=ne_beq (by omega)
  have e8:(P == H.next + 1)=false:=ne_beq (by omega)
  have e9:(ra == H.next)=false:=ne_beq (by omega)
  have e10:(ra == H.next + 1)=false:=ne_beq (by omega)
  have hpr:=pickG_range (n:=k) (m:=8) (by omega) (by omega)
  obtain ⟨M,hM⟩:∃ M:Nat,pickG k 8=(M:Int):=⟨(pickG k 8).toNat,by omega⟩
  have hMl:M < 8:=by omega
  have kp:=fun H=>pick_en hG.pick k 8 (by decide) H
  rw [hM] at kp
  have hgood:=ordP_good (i:=i) (x:=x) (y:=y) fs gs fn gn
  have hA:=(hX.arsP.keep (S':=fun q=>lo ≤ q ∧ q=ra) (fun q _ hq=>⟨by omega,hq⟩) (Nat.le_refl _) fun _ _ _=>rfl).up (show 14 + 1 ≤ 50 by omega)
  have hFn:=(hX.fnsP.keep (S':=fun q=>lo ≤ q ∧ q ≠ ra ∧ q ≠ P) (fun q _ hq=>⟨hX.lo_of hq.1,hq.2,fun e=>hq.1 (by rw [e];exact hPt)⟩) (Nat.le_refl _) fun _ _ _=>rfl).up (show 14 + 1 ≤ 50 by omega)
  have gp0:=gp
  clear gp
  rcases hi with rfl|rfl
  all_goals
    simp only [Nat.mul_zero,Nat.mul_one] at k8
    first|have gf:=hX.gf0|have gf:=hX.gf1
    dsimp only [mpBody,scB,scL,scR,code12]
    have gp:=gp0
    repeat' (first
       | (apply Rx.nl ?_;clear hK K)|apply Ry.o ?_|(apply Ry.cd (fun hb hbp=>?_) (fun hb hbp=>?_) <;> try (cases hb;done))|apply Wp.seq ?_|(apply Wp.ops' fun K hK=>?_)|apply Wp.block ?_|apply Rx.sk ?_|apply Rx.xt ?_)
    refine Wp.forI [2,6,7,8,9] [] 16 M (fun j E H3=>∃ vb,H3.get P=some (.cells [.sl ra 0 2 2,vb] 0 true) ∧ RowOwn (fun q=>lo ≤ q ∧ q ≠ ra ∧ q ≠ P) 50 H3 9 vb (((ordP _ x y f g).funcs ++ vFs j).map Fu.cells) ∧ (∀ q,q < H.next → (q < lo ∨ q=ra) → H3.get q=H.get q)) eE ⟨.sl rf 0 2 9,gp,by rw [show (ordP _ x y f g).funcs ++ vFs 0=(ordP _ x y f g).funcs from List.append_nil _];exact hFn,fun _ _ _=>rfl⟩ ?_
    rintro j E H3 hj hcE hrH hnH hsI ⟨vb,gp3,hF3,hf3⟩
    (try simp only [forall_cons,forall_nil,and_true,sB,sO,Nat.reduceBEq,Nat.reduceAdd,Nat.reduceLeDiff,tyF, *] at hcE)
    (try simp only [forall_cons,forall_nil,and_true,sB,sO,Nat.reduceBEq,Nat.reduceAdd,Nat.reduceLeDiff,tyF, *] at hrH)
    (try simp only [Hp.next_alloc,Hp.next_set,H0_next,Nat.zero_add,Nat.reduceAdd] at hnH)
    clear gp
    have hnx:H.next ≤ H3.next:=by simpa using hnH
    have f1:(rf == H3.next)=false:=ne_beq (by omega)
    have f2:(rf == H3.next + 1)=false:=ne_beq (by omega)
    have f3:(rf == H3.next + 2)=false:=ne_beq (by omega)
    have f4:(P == H3.next)=false:=ne_beq (by omega)
    have f5:(P == H3.next + 1)=false:=ne_beq (by omega)
    obtain ⟨o1,o2⟩:=hF3.one
    repeat' (first
       | (apply Rx.nl ?_;clear hK K)|apply Ry.o ?_|(apply Ry.call ?_;first|refine Rx.k (kp _) ?_)|(apply Ry.cd (fun hb hbp=>?_) (fun hb hbp=>?_) <;> try (cases hb;done))|apply Wp.seq ?_|(apply Wp.ops' fun K hK=>?_)|apply Wp.block ?_|apply Rx.sk ?_|apply Rx.xt ?_)
    · have hlt : j < M := by omega
      have hw97:IntKind.wrap .i64 (97 + (j:Int))=97 + (j:Int):=i64_id (by omega) (by omega)
      have hcv:=fun H=>cv3_5 H .i64 (97 + (j:Int))
      generalize hmm:IntKind.wrap .u8 (97 + (j:Int))=mm at hcv
      have hmc:UInt8.ofNat mm.toNat=UInt8.ofNat (97 + j):=by rw [← hmm];exact u8_atM (by omega)
      have hg3:(H3.alloc (.cells [.int .u8 mm] 0 true)).get H3.next=some (.cells [.int .u8 mm] 0 true):=by rw [Hp.get_alloc,if_pos rfl]
      have hcu:=cvUM hg3
      rw [hmc] at hcu
      have hcat:∀ D t,binA Try.prog D .add t (.str [104]) (.str [UInt8.ofNat (97 + j)])=some (.str [104,UInt8.ofNat (97 + j)]):=fun D t=>bin_sadd (by simp [maxRoom])
      obtain ⟨H',a1,a2,a3,a4⟩:=fns_push hF3 (by omega) (by omega) (by omega) (Hb:=(H3.alloc (.cells [.int .u8 mm] 0 true)).alloc (.cells [.str [104,UInt8.ofNat (97 + j)],.nilS,.nilS,.nilS,.int .i64 1,.int .i64 0,.str [],.int .i64 0,.nilS] 0 true)) (by simp only [Hp.next_alloc];omega) (fun q h1=>by rw [alloc_old (by simp only [Hp.next_alloc];omega),alloc_old h1]) (t:=H3.next + 1) (row:=[.str [104,UInt8.ofNat (97 + j)],.nilS,.nilS,.nilS,.int .i64 1,.int .i64 0,.str [],.int .i64 0,.nilS]) (w:=⟨[104,UInt8.ofNat (97 + j)],[],[],[],.mk 1 0 [] 0 []⟩) (by rw [Hp.get_alloc,if_pos (by rfl)]) rfl rfl (fun H'=>fu_w (n:=49) [104,UInt8.ofNat (97 + j)] 1 0 0 []) (by rw [List.length_append,ordP_len,vFs_len]) (by omega)
      simp only [Hp.next_alloc,Nat.add_assoc,Nat.reduceAdd] at a1 a2 a3 a4
      have gr:=(a3 P (by omega) (.inr (.inr rfl))).trans gp3
      have n1:H3.next ≤ H'.next:=by omega
      have gh0:=@bF2
      have gh1:=@bsFx
      repeat' (first
         | (apply Rx.nl ?_;clear hK K)|apply Rx.o ?_|apply Rx.on ?_|apply Wp.seq ?_|(apply Wp.ops' fun K hK=>?_)|apply Wp.block ?_|apply Rx.sk ?_|apply Rx.xt ?_)
      refine ⟨by omega,eL,eL,eN,(by simp only [sB,Nat.reduceBEq, *];exact i64_succ (n:=M) (by omega) (by omega)),?_⟩
      refine ⟨_,by rw [Hp.get_set,if_pos rfl],?_,?_⟩
      · rw [vFs_succ, ← List.append_assoc]
        exact a4 _ rfl (fun q hq=>by rw [Hp.get_set,if_neg hq])
      · intro q h1 h2
        rw [Hp.get_set,if_neg (by omega),a3 q (by omega) (by omega)];exact hf3 q h1 h2
    · have hje : j = M := by omega
      subst hje
      refine ⟨rfl,eE,eE,_,_,⟨(ordP _ x y f g).arrays,(ordP _ x y f g).funcs ++ vFs j⟩,fun q=>q=ra,gp3,by omega,⟨Ne.symm raP,?_,hF3,good_addF hgood (by have:=vFs_sz j;omega) (vFs_nm j)⟩,?_⟩
      · exact hA.keep (fun _ _ h=>h) hnx fun q h1 h2=>hf3 q h2 (.inr h1.2)
      · intro q h1;rw [hf3 q (by omega) (.inl h1)];exact old q h1
end Go.Proofs.Ytackdnelcpbfjaa
namespace Go.Proofs.Ytackdnelcpbfjaa
set_option maxRecDepth 20000
set_option maxRecDepth 20000
open Go Go.Ab
namespace tyMuQ
def tyF:=And.intro @tq2 (And.intro @tq3 (And.intro @tq5 (And.intro @tq9 (And.intro @tq22 (And.intro @tq23 (And.intro @tq25 (And.intro @tq35 (And.intro @tq36 (And.intro @tq37 (And.intro @tq39 (And.intro @tq41 (And.intro @tq44 (And.intro @tq46 (And.intro @tq84 (And.intro @cv3_5 (And.intro @bin_quo (@aggP2)))))))))))))))))
end tyMuQ
open tyMuQ
theorem mp_all {lG:List En} (hG:MutL lG) {i:Nat} {a h k:Int} {lo m P:Nat} {Hs H:Hp} {ra rf:Nat} {x y:Int} {f g:Fu} {pf lf bf:AV} {vf:List AV} {pg lg bg:AV} {vg:List AV} {E:Env} (hat:AtM i a h k lo m P Hs H ra rf x y f g pf lf bf vf pg lg bg vg E):Wp Try.prog (cfgN pls lG) 12 285 mpBody E H (TailM lo m P Hs):=by
 by_cases c1:h=1
 · exact mp1 hG hat c1
 by_cases c2:h=2
 · exact mp2 hG hat c2
 by_cases c3:h=3
 · exact mp3 hG hat c3
 by_cases c4:h=4
 · exact mp4 hG hat c4
 by_cases c5:h=5
 · exact mp5 hG hat c5
 by_cases c6:h=6
 · exact mp6 hG hat c6
 by_cases c7:h=7
 · exact mp7 hG hat c7
 by_cases c8:h=8
 · exact mp8 hG hat c8
 by_cases c9:h=9
 · exact mp9 hG hat c9
 by_cases c10:h=10
 · exact mp10 hG hat c10
 by_cases c11:h=11
 · exact mp11 hG hat c11
 by_cases c12:h=12
 · exact mpE hG hat ⟨by omega,by omega⟩
 by_cases c13:h=13
 · exact mpE hG hat ⟨by omega,by omega⟩
 by_cases c14:h=14
 · exact mpE hG hat ⟨by omega,by omega⟩
 by_cases c15:h=15
 · exact mpE hG hat ⟨by omega,by omega⟩
 by_cases c16:h=16
 · exact mpE hG hat ⟨by omega,by omega⟩
 by_cases c17:h=17
 · exact mp17 hG hat c17
 by_cases c18:h=18
 · exact mp18 hG hat c18
 refine mpNone hG hat ?_
 simp only [List.forall_mem_cons,List.not_mem_nil,false_implies,implies_true,and_true]
 exact ⟨c1,c2,c3,c4,c5,c6,c7,c8,c9,c10,c11,c12,c13,c14,c15,c16,c17,c18⟩
theorem at_start {i:Nat} {pt:Nat → Nat} {lo b b' m P:Nat} {ra rf:Nat} {x y a:Int} {f g:Fu} {pf lf bf:AV} {vf:List AV} {pg lg bg:AV} {vg:List AV} {Hq:Hp} (h:ProgX i (fun q=>if Hq.next ≤ q then 0 else pt q) lo b b' 14 ((Hq.alloc (.cells [.nilS,.nilS] 0 true)).set Hq.next (.cells [.sl ra 0 2 2,.sl rf 0 2 9] 0 true)) ra rf x y f g pf lf bf vf pg lg bg vg) (hi:i=0 ∨ i=1) (hP:P=Hq.next) (hlo:lo ≤ Hq.next) (fs:f.sz < 2 ^ 24) (gs:g.sz < 2 ^ 24) (fn:f.name ≠ zzN) (gn:g.name ≠ zzN) (hpi:pickG a 2=i) (hm:m < lo) {E:Env} {hh k:Int}
   (k2:E.at 2=.int .i64 a) (k6:E.at 6=.ptr m 0) (k7:E.at 7=.ptr P 0) (k8:E.at 8=.ptr rf (9 * i)) (k9:E.at 9=.int .i64 k) (k27:E.at 27=.int .i64 hh) :
   AtM i a hh k lo m P ((Hq.alloc (.cells [.nilS,.nilS] 0 true)).set Hq.next (.cells [.sl ra 0 2 2,.sl rf 0 2 9] 0 true)) ((Hq.alloc (.cells [.nilS,.nilS] 0 true)).set Hq.next (.cells [.sl ra 0 2 2,.sl rf 0 2 9] 0 true)) ra rf x y f g pf lf bf vf pg lg bg vg E:=
 ⟨⟨_,b,b',h,by rw [hP,if_pos (Nat.le_refl _)]⟩,hi,hm,by omega,by rw [hP];exact Nat.lt_succ_self _,by rw [hP,Hp.get_set,if_pos rfl],fun _ _=>rfl,fs,gs,fn,gn,hpi,k2,k6,k7,k8,k9,k27⟩
theorem ixF2a (r:Nat):indexAddrA Try.prog 23 (.sl r 0 2 9) (.int .i64 0)=some (.ptr r 0):=by kernel_rfl
theorem ixF2b (r:Nat):indexAddrA Try.prog 23 (.sl r 0 2 9) (.int .i64 1)=some (.ptr r 9):=by kernel_rfl
set_option maxRecDepth 100000 in
theorem mutProgram_wp {lG:List En} (hG:MutL lG) (hst:StAll lG) (l:List Int) (hl:l.length < 2 ^ 63) (how a:Int) (H:Hp) :
   WpCall Try.prog (cfgN pls lG) 12 [.lst (l.map fun n=>[AV.int .i64 n]),.int .i64 how,.int .i64 a] H fun v H'=>∃ va vb p R P,v=.agg [va,vb] ∧ MutR (H.next + 1) P 50 H' va vb p R ∧ H.next ≤ H'.next ∧ ∀ q,q < H.next → H'.get q=H.get q:=by
 have hw:Plain (cfgN pls lG) 12:=plainN hG.plm.1 hG.plm.2
 have hkeep:(cfgN pls lG).keep 12=false:=rfl
 have hsz:=genP_szS l
 have hq24:(24:Int) ≠ 0:=by decide
 have hpr:=pickG_range (n:=a) (m:=2) (by omega) (by omega)
 have kp2:=pick_en hG.pick a 2 (by decide)
 refine WpCall.slim (M:=285) (rs:=[.cell 6 25]) (hw.call _) hw.ice hw.froz Try.func12 rfl rfl code12.2 rfl ?_;dsimp only [code12,envOf,Nat.reduceAdd]
 repeat' (first
    | (apply Rx.nl ?_;clear hK K)|apply Rx.o ?_|apply Rx.on ?_|apply Wp.seq ?_|(apply Wp.ops' fun K hK=>?_)|(apply Rx.dT 2 [(1,3),(1,6)] fun K hK=>?_)|(apply Rx.dT 8 [(4,7),(4,11),(5,7),(5,11),(9,11),(10,11)] fun K hK=>?_)|(apply Rx.dT 10 [(4,7),(4,11),(5,7),(5,11),(9,11),(10,11)] fun K hK=>?_)|(apply Rx.dT 15 [(4,12),(7,12),(8,12),(9,12),(11,12)] fun K hK=>?_)|(apply Rx.dT 17 [(1,3),(1,5),(1,9)] fun K hK=>?_)|(apply Rx.dT 19 [(1,4),(1,9),(2,4),(2,9),(6,9),(8,9)] fun K hK=>?_)|(apply Rx.dT 50 [(3,14),(3,16),(8,14),(11,14)] fun K hK=>?_)|(apply Rx.dT 52 [(1,4),(1,9),(2,4),(2,9),(6,9),(8,9)] fun K hK=>?_)|(apply Rx.nq ?_;try intro _)|(apply Rx.nt ?_ ?_ <;> clear hK K)|apply WpT.step ?_|apply Rx.rt ?_)
 refine WpL.call rfl eVk eAk ?_;simp only [List.cons_append,List.nil_append,List.append_nil]
 refine WpCall.mono ?_ (program_wp hG.toGenL hst l hl _)
 rintro _ Hq ⟨ra,rf,x,y,cf,cg,rfl,_,hnx,hold,hra,pt,pf,lf,bf,vf,pg,lg,bg,vg,rfl,rfl,hP,hA,hlab⟩
 simp only [Hp.next_alloc] at hnx hold hra hlab
 have hm0:Hq.get H.next=some (.cells [.nilS,.nilS] 0 true):=by rw [hold _ (by omega),Hp.get_alloc,if_pos rfl]
 have ltA:=hP.ltA
 have ltF:=hP.ltF
 obtain ⟨X0,X1⟩:=hP.toX (lo:=H.next + 1) (by omega) (fun q hq=>hlab q hq)
 have hzf:(genF (l.take 60)).sz < 2 ^ 24 ∧ (genGf (l.take 60)).sz < 2 ^ 24:=by
   rw [genP] at hsz
   simp only [Pr.sz,fnsSz] at hsz
   omega
 dsimp only [setO]
 rcases (by omega:pickG a 2=0 ∨ pickG a 2=1) with hi|hi
 all_goals
   rw [hi] at kp2
   have gh0:=@ixF2a
   have gh1:=@ixF2b
   repeat' (first
      | (apply Rx.nl ?_;clear hK K)|apply Rx.o ?_|apply Rx.on ?_|(apply Rx.call ?_;first|refine Rx.k (kp2 _) ?_)|apply Wp.seq ?_|(apply Wp.ops' fun K hK=>?_)|(apply Rx.dT 2 [(1,3),(1,6)] fun K hK=>?_)|(apply Rx.dT 8 [(4,7),(4,11),(5,7),(5,11),(9,11),(10,11)] fun K hK=>?_)|(apply Rx.dT 10 [(4,7),(4,11),(5,7),(5,11),(9,11),(10,11)] fun K hK=>?_)|(apply Rx.dT 15 [(4,12),(7,12),(8,12),(9,12),(11,12)] fun K hK=>?_)|(apply Rx.dT 17 [(1,3),(1,5),(1,9)] fun K hK=>?_)|(apply Rx.dT 19 [(1,4),(1,9),(2,4),(2,9),(6,9),(8,9)] fun K hK=>?_)|(apply Rx.dT 50 [(3,14),(3,16),(8,14),(11,14)] fun K hK=>?_)|(apply Rx.dT 52 [(1,4),(1,9),(2,4),(2,9),(6,9),(8,9)] fun K hK=>?_)|(apply Rx.nq ?_;try intro _)|(apply Rx.nt ?_ ?_ <;> clear hK K)|apply WpT.step ?_|apply Rx.rt ?_)
   · exact eK
   refine WpL.call rfl eVk eAk ?_;simp only [List.cons_append,List.nil_append,List.append_nil]
   refine WpCall.mono ?_ (pick_en hG.pick how 24 (by decide) _)
   rintro _ _ ⟨rfl,rfl⟩
   dsimp only [setO]
   refine WpL.nil (hK _ _ ?_)
   clear hK K
   dsimp only [thenQ,blockQ]
   first
   | refine Wp.mono (fun x E' H' h=>?_) (mp_all hG (at_start (m:=H.next) (X0.mv0 (H':=(Hq.alloc (.cells [.nilS,.nilS] 0 true)).set Hq.next (.cells [.sl ra 0 2 2,.sl rf 0 2 9] 0 true)) (by simp only [Hp.next_set,Hp.next_alloc];omega) (fun q _ h1=>by rw [Hp.get_set,if_neg (by omega),alloc_old h1])) (P:=Hq.next) (a:=a) (.inl rfl) rfl (by omega) hzf.1 hzf.2 (by intro e;cases e) (by intro e;cases e) hi (Nat.lt_succ_self _) eE eE eE eE eE eE))
   | refine Wp.mono (fun x E' H' h=>?_) (mp_all hG (at_start (m:=H.next) (X1.mv0 (H':=(Hq.alloc (.cells [.nilS,.nilS] 0 true)).set Hq.next (.cells [.sl ra 0 2 2,.sl rf 0 2 9] 0 true)) (by simp only [Hp.next_set,Hp.next_alloc];omega) (fun q _ h1=>by rw [Hp.get_set,if_neg (by omega),alloc_old h1])) (P:=Hq.next) (a:=a) (.inr rfl) rfl (by omega) hzf.2 hzf.1 (by intro e;cases e) (by intro e;cases e) hi (Nat.lt_succ_self _) eE eE eE eE eE eE))
   obtain ⟨rfl,k6,k7,va,vb,p,R,hgP,hPl,hM,hold'⟩:=h
   have hm1:H'.get H.next=some (.cells [.nilS,.nilS] 0 true):=by
     rw [hold' _ (by omega),Hp.get_set,if_neg (by omega),alloc_old (by omega)];exact hm0
   dsimp only [thenQ,blockQ]
   have e1:(Hq.next == H.next)=false:=ne_beq (by omega)
   have e2:(H.next == Hq.next)=false:=ne_beq (by omega)
   have o1:AV.one va=true:=by
     rcases hM.ars with ⟨rfl,_⟩|⟨q,imm,rows,rfl,_⟩ <;> rfl
   have o2:AV.one vb=true:=by
     rcases hM.fns with ⟨rfl,_⟩|⟨q,imm,rows,rfl,_⟩ <;> rfl
   repeat' (first
      | (apply Rx.nl ?_;clear hK K)|apply Rx.o ?_|apply Rx.on ?_|apply Wp.seq ?_|(apply Wp.ops' fun K hK=>?_)|(apply Rx.dT 2 [(1,3),(1,6)] fun K hK=>?_)|(apply Rx.dT 8 [(4,7),(4,11),(5,7),(5,11),(9,11),(10,11)] fun K hK=>?_)|(apply Rx.dT 10 [(4,7),(4,11),(5,7),(5,11),(9,11),(10,11)] fun K hK=>?_)|(apply Rx.dT 15 [(4,12),(7,12),(8,12),(9,12),(11,12)] fun K hK=>?_)|(apply Rx.dT 17 [(1,3),(1,5),(1,9)] fun K hK=>?_)|(apply Rx.dT 19 [(1,4),(1,9),(2,4),(2,9),(6,9),(8,9)] fun K hK=>?_)|(apply Rx.dT 50 [(3,14),(3,16),(8,14),(11,14)] fun K hK=>?_)|(apply Rx.dT 52 [(1,4),(1,9),(2,4),(2,9),(6,9),(8,9)] fun K hK=>?_)|(apply Rx.nq ?_;try intro _)|(apply Rx.nt ?_ ?_ <;> clear hK K)|apply WpT.step ?_|apply Rx.rt ?_)
   refine ⟨eI,_,(by (try simp only [sB,sO,Nat.reduceBEq,Nat.reduceAdd,Nat.reduceLeDiff,tyF,resultsA,resultA,aggP2, *]);first|done|with_reducible rfl),?_⟩;try simp only [oneOr]
   refine ⟨va,vb,p,R,Hq.next,rfl,⟨hM.ne,hM.ars.keep (fun _ _ h=>h) (Nat.le_refl _) fun q h1 _=>by rw [Hp.get_set,if_neg (by have:=h1.1;omega)],hM.fns.keep (fun _ _ h=>h) (Nat.le_refl _) fun q h1 _=>by rw [Hp.get_set,if_neg (by have:=h1.1;omega)],hM.good⟩,by rw [Hp.next_set];omega,fun q h1=>?_⟩
   rw [Hp.get_set,if_neg (by omega),hold' q (by omega),Hp.get_set,if_neg (by omega),alloc_old (by omega),hold q (by omega),alloc_old h1]
end Go.Proofs.Ytackdnelcpbfjaa
namespace Go.Proofs.Ytackdnelcpbfjaa
set_option maxRecDepth 20000
open Go Go.Ab
theorem prE_ns (p:Pr):(prE p).any (hasSl 90)=false:=rfl
theorem chkX {l:List En} (hl:∀ ar,lookN l 13 ar=(enW enChkP).sp ar) (hi:iceN l 13=true) {S:Nat → Prop} {n:Nat} {H:Hp} {cs:List AV} {p:Pr} (hn:n < 59) (hc:CellsW S n H cs p.cells) (hz:p.sz < 2 ^ 36) :
   WpCall Try.prog (cfgN pls l) 13 [.agg cs] H fun v H'=>v=.int .i64 (refCheck p) ∧ Icy S H H':=by
 obtain ⟨us,h1,h2⟩:=hc
 refine WpCall.enX (x:=p) (enc:=prE) (ok:=fun p=>p.sz < 2 ^ 36) (out:=fun p=>.int .i64 (refCheck p)) (us:=[.agg us]) (n:=n + 1) prE_inj (fun ar=>by rw [hl];rfl) hi prE_ns hz (by omega) ⟨⟨us,h1,rfl⟩,trivial⟩ ?_
 show [AV.agg (us.map (wkN 59))]=_
 rw [h2 59 (by omega)];rfl
theorem MutR.rd {lo P n:Nat} {H:Hp} {va vb:AV} {p:Pr} {R:Nat → Prop} (h:MutR lo P n H va vb p R):CellsW (fun q=>lo ≤ q ∧ q ≠ P ∧ q < H.next) (n + 1) H [va,vb] p.cells:=by
 have e:p.cells=[.lst (p.arrays.map Ar.cells),.lst (p.funcs.map Fu.cells)]:=by cases p;rfl
 rw [e]
 exact .cons (h.ars.rd.keep2 (fun k h1 h2=>⟨h2.1,fun e=>h.ne (by rw [← e];exact h2.2),h1⟩) (Nat.le_refl _) fun _ _ _=>rfl) (.cons (h.fns.rd.keep2 (fun k h1 h2=>⟨h2.1,h2.2.2,h1⟩) (Nat.le_refl _) fun _ _ _=>rfl) .nil)
theorem MutR.one {lo P n:Nat} {H:Hp} {va vb:AV} {p:Pr} {R:Nat → Prop} (h:MutR lo P n H va vb p R):AV.one va=true ∧ AV.one vb=true:=⟨h.ars.one.1,h.fns.one.1⟩
end Go.Proofs.Ytackdnelcpbfjaa
namespace Go.Ab
set_option maxRecDepth 20000
open Go Go.WideShapes Go.Deep Go.RowKit Go.ChangeShapes
def memF (W:World):Nat → Nat → Option Value:=fun b o=>W.cell? ⟨b,o,none⟩
theorem memF_ok (W:World):∀ b o v,memF W b o=some v → W.cell? ⟨b,o,none⟩=some v:=fun _ _ _ h=>h
section
variable {H:Type} {enc:TypeId × Value → H} {P:Program} {W:World}
theorem arg_ints {r : Reach} {b0 : Nat} {t e : TypeId} {k : IntKind} {v : Value} {d : DataW H} {ps : List MemPlace} {sp : Nat → Bool} {held : Bool} (ht : P.underlying t = some (.slice e)) (he : P.underlying e = some (.int k)) (hc : P.cellsOf e = 1) (hval : Value.okWide P W r b0 t v) (hd : DataW.Trod enc P W 0 sp held t v d ps) (β : Nat → Option (Nat × Nat × Nat)) (ρ : Nat → Int) :
    ∃ l:List Int,VR ⟨β,memF W,ρ⟩ (.lst (l.map fun n=>[AV.int k n])) v ∧ l.length ≤ maxLen:=by
  obtain ⟨a0,len0,cap0,rfl⟩:=okWide_slice ht hval
  obtain ⟨fuel,hf⟩:=hd
  rcases open_slice1 ht hc hf with ⟨h,_⟩|⟨a,len,cap,m,n,V,D,Pl,h,hb,hl,hm,hmm,hx,hV⟩
  · simp [Value.cells] at h
    obtain ⟨rfl,rfl,rfl⟩:=h
    exact ⟨[],.lst0 _ _,Nat.zero_le _⟩
  · simp [Value.cells] at h
    obtain ⟨rfl,rfl,rfl⟩:=h
    have hlm:len0 ≤ m:=by rw [hmm];split <;> omega
    have hint:∀ i,∃ n:Int,i < len0 → V i=.int k n:=fun i=>by
      by_cases hi:i < len0
      · obtain ⟨n', h1, _⟩ := DataW.trod_int he (hV i (by omega)).2
        simp at h1
        exact ⟨n',fun _=>h1⟩
      · exact ⟨0,fun h=>absurd h hi⟩
    obtain ⟨N,hN⟩:=Classical.axiomOfChoice hint
    refine ⟨(List.range len0).map N,?_,by simp;omega⟩
    by_cases h0:len0=0
    · subst h0;exact .lst0 _ _
    obtain ⟨ab,ao,asp⟩:=a
    have hspot:asp=none:=by
      have:=(hV 0 (by omega)).1
      simp only [Addr.add,if_true,World.cell?] at this
      split at this
      · split at this
        · cases this
        · rename_i hn
          cases asp with
          | none=>rfl
          | some s=>simp at hn
      · cases this
    subst hspot
    have hlen:(((List.range len0).map N).map fun n=>[AV.int k n]).length=len0:=by simp
    have key:=VR.lst (G:=⟨β,memF W,ρ⟩) (xs:=((List.range len0).map N).map fun n=>[AV.int k n]) (b:=ab) (o:=ao) (cap:=cap0) (z:=1) (fun i _=>V i) ?_ ?_ ?_ (by rw [hlen];omega)
    · rw [hlen] at key;exact key
    · intro i row hr
      rw [List.getElem?_map] at hr
      cases hq:((List.range len0).map N)[i]? with
      | none=>rw [hq] at hr;simp at hr
      | some q=>rw [hq] at hr;simp only [Option.map_some,Option.some.injEq] at hr;rw [← hr];rfl
    · intro i j hi hj
      rw [hlen] at hi
      have h2:=(hV i (by omega)).1
      show W.cell? ⟨ab,ao + i * 1 + j,none⟩=some (V i)
      have hj0:j=0:=by omega
      subst hj0
      rw [← h2]
      congr 1
      unfold Addr.add
      split
      · rename_i h;subst h;rfl
      · simp
    · intro i j row c hr hcj
      rw [List.getElem?_map,List.getElem?_map] at hr
      by_cases hi:i < len0
      · rw [List.getElem?_range hi] at hr
        simp only [Option.map_some,Option.some.injEq] at hr
        subst hr
        cases j with
        | zero =>
          simp only [List.getElem?_cons_zero,Option.some.injEq] at hcj
          subst hcj
          show VR _ _ (V i)
          rw [hN i hi]
          exact .int k _
        | succ j=>simp at hcj
      · rw [List.getElem?_eq_none (by simp; omega)] at hr
        simp at hr
theorem arg_stays {t:TypeId} (hl:laidOutB P=true) (hr:P.readableRec t=true) (hrow:t < P.types.size) {W':World} {v:Value} {d:DataW H} {ps before:List MemPlace}
   (h:DataW.Trod enc P W 0 (fun _=>true) true t v d ps) (hb:Below W.heap.size W W') (hlt:∀ p ∈ before,p.block < W.heap.size) (hps:∀ p ∈ ps,p ∈ before) {sp:Nat → Bool} (hsp:∀ p ∈ before,sp p.block=true) :
   DataW.Trod enc P W' 0 sp true t v d ps:=
 WideElems.Trod_stays hl hr hrow h (fun x hx=>hb.same (hlt x (hps x hx))) fun x hx=>hsp x (hps x hx)
end
end Go.Ab
namespace Go.Ab
set_option maxRecDepth 20000
open Go Go.WideShapes Go.Deep Go.RowKit Go.ChangeShapes Go.Proofs.Ytackdnelcpbfjaa
inductive Sh (P:Program):Nat → TypeId → List AV → Prop
 | int {t:TypeId} {k:IntKind} (n:Int) (ht:P.underlying t=some (.int k)) (hw:(Lit.int k n).wf=true):Sh P 1 t [.int k n]
 | bool {t:TypeId} (b:Bool) (ht:P.underlying t=some .bool):Sh P 1 t [.bool b]
 | str {t:TypeId} (s:List UInt8) (ht:P.underlying t=some .string):Sh P (s.length + 1) t [.str s]
 | rows {t e:TypeId} (l:List (List AV × Nat)) (ht:P.underlying t=some (.slice e)) (h:∀ r ∈ l,Sh P r.2 e r.1):Sh P ((l.map (·.2)).sum + 1) t [.lst (l.map (·.1))]
 | struct {t:TypeId} {fs:Array Field} (l:List (List AV × Nat)) (ht:P.underlying t=some (.struct fs)) (hl:l.length=fs.size) (h:∀ (i:Nat) f r,fs[i]?=some f → l[i]?=some r → Sh P r.2 f.type r.1):Sh P ((l.map (·.2)).sum + 1) t (l.map (·.1)).flatten
def tileB (P:Program):List Field → Nat → Nat → Bool
 | [],i,n=>i == n
 | f :: fs,i,n=>f.offset == i && tileB P fs (i + P.cellsOf f.type) n
def goodT (P:Program) (S:List TypeId):Bool:=S.all fun t=>match P.underlying t with
 | some (.int _)|some .bool|some .string=>true
 | some (.slice e)=>S.contains e && Nat.blt 0 (P.cellsOf e)
 | some (.struct fs)=>fs.toList.all (fun f=>S.contains f.type) && tileB P fs.toList 0 (P.cellsOf t)
 | _=>false
theorem tile_flat {P:Program} {α:Type} {cs:List α} {n:Nat} (hl:cs.length=n):∀ (fs:List Field) (i:Nat),tileB P fs i n=true → (fs.map fun f=>(cs.drop f.offset).take (P.cellsOf f.type)).flatten=cs.drop i
 | [], i, h => by
   have:i=n:=by simpa [tileB] using h
   subst this
   rw [← hl,List.drop_length];rfl
 | f :: fs, i, h => by
   simp only [tileB,Bool.and_eq_true,beq_iff_eq] at h
   rw [List.map_cons,List.flatten_cons,tile_flat hl fs _ h.2,h.1,← List.drop_drop,List.take_append_drop]
section
variable {H:Type} {enc:TypeId × Value → H} {P:Program} {W:World}
theorem VRs.flat {G:Gh}:∀ {l:List (List AV)} {m:List (List Value)},l.length=m.length → (∀ (i:Nat) a b,l[i]?=some a → m[i]?=some b → VRs G a b) → VRs G l.flatten m.flatten
 | [],[],_,_=>VRs.nil G
 | a :: l, b :: m, hl, h => by
   rw [List.flatten_cons,List.flatten_cons]
   exact (h 0 a b rfl rfl).append (VRs.flat (by simpa using hl) fun i x y hx hy=>h (i + 1) x y (by simpa using hx) (by simpa using hy))
theorem bulk_sum:∀ {l:List (DataW H)} {m:List Nat},l.length=m.length → (∀ (i:Nat) d n,l[i]?=some d → m[i]?=some n → n ≤ Rows.uptoBulk d) → m.sum ≤ Rows.uptoBulkAll l
 | [],[],_,_=>Nat.le_refl _
 | d :: l, n :: m, hl, h => by
   have h1:=h 0 d n rfl rfl
   have h2:=bulk_sum (l:=l) (m:=m) (by simpa using hl) fun i x y hx hy=>h (i + 1) x y (by simpa using hx) (by simpa using hy)
   simp only [Rows.uptoBulkAll,List.sum_cons]
   omega
theorem add_off {a:Addr} {i:Nat} (h:a.spot=none):a.add i=⟨a.block,a.off + i,none⟩:=by
 obtain ⟨b,o,s⟩:=a
 simp only at h
 subst h
 unfold Addr.add
 split
 · rename_i h;subst h;rfl
 · rfl
theorem cells_at {a:Addr} {n:Nat} {cs:List Value} (h:W.cells? 0 a n=some cs):cs.length=n ∧ ∀ j,j < n → W.cell? (a.add j)=cs[j]?:=by
 unfold World.cells? at h
 rw [if_pos (Nat.zero_le _)] at h
 refine ⟨by have:=mapM_some_length h;simpa using this,fun j hj=>?_⟩
 have:=mapM_some_get h j j (by rw [List.getElem?_range hj])
 exact this
theorem raw_read {S : List TypeId} (hS : goodT P S = true) (ρ : Nat → Int) {sp : Nat → Bool} {held : Bool} : ∀ (fuel : Nat) (t : TypeId) (cs : List Value) (x : DataW H × List MemPlace), t ∈ S → DataW.trod enc P W 0 sp held fuel t cs = some x →
    ∃ az n,VRs ⟨fun _=>none,memF W,ρ⟩ az cs ∧ Sh P n t az ∧ n ≤ Rows.uptoBulk x.1
  | 0,_,_,_,_,h=>by simp [DataW.trod] at h
  | fuel + 1, t, cs, x, ht, h => by
    have hg:=List.all_eq_true.1 hS t ht
    split at hg
    · rename_i k hu
      obtain ⟨n,rfl,rfl,hw⟩:=DataW.trod_int hu h
      exact ⟨[.int _ n],1,VRs.cons (.int _ _) (VRs.nil _),.int n hu hw,Nat.le_refl _⟩
    · rename_i hu
      obtain ⟨n,rfl,rfl⟩:=DataW.trod_bool hu h
      exact ⟨[.bool n],1,VRs.cons (.bool _) (VRs.nil _),.bool n hu,Nat.le_refl _⟩
    · rename_i hu
      obtain ⟨s,rfl,rfl,_⟩:=DataW.trod_string hu h
      exact ⟨[.str s.data.toList],_,VRs.cons (.str s _ rfl) (VRs.nil _),.str _ hu,by simp [Rows.uptoBulk]⟩
    · rename_i e hu
      rw [Bool.and_eq_true,Nat.blt_eq] at hg
      have he:e ∈ S:=by simpa using hg.1
      have hz0:=hg.2
      rcases DataW.trod_slice hu h with ⟨rfl,rfl⟩|⟨a,len,cap,elems,rest,n,hn,rfl,rfl,_,hl,hm,hlen,hel,_,_⟩
      · exact ⟨[.lst []],_,VRs.cons (.lst0 none 0) (VRs.nil _),.rows [] hu (by simp),by simp [Rows.uptoBulk]⟩
      · obtain rfl : n = fuel := by omega
        have key:∀ i:Nat,∃ r:List AV × Nat,i < len → ∃ cs',W.cells? 0 (a.add (i * P.cellsOf e)) (P.cellsOf e)=some cs' ∧ VRs ⟨fun _=>none,memF W,ρ⟩ r.1 cs' ∧ Sh P r.2 e r.1 ∧ ∀ y:DataW H × List MemPlace,elems[i]?=some y → r.2 ≤ Rows.uptoBulk y.1:=fun i=>by
          by_cases hi:i < len
          · have hb := hel i hi
            rw [List.getElem?_eq_getElem (by omega)] at hb
            obtain ⟨cs',h1,h2⟩:=Option.bind_eq_some_iff.1 hb
            obtain ⟨a',k,v1,v2,v3⟩:=raw_read hS ρ n e cs' _ he h2
            exact ⟨(a',k),fun _=>⟨cs',h1,v1,v2,fun y hy=>by
              rw [List.getElem?_eq_getElem (by omega)] at hy
              cases hy;exact v3⟩⟩
          · exact ⟨([],0),fun h=>absurd h hi⟩
        obtain ⟨R,hR⟩:=Classical.axiomOfChoice key
        have hLl:(((List.range len).map R).map (·.1)).length=len:=by simp
        refine ⟨[.lst (((List.range len).map R).map (·.1))],_,VRs.cons ?_ (VRs.nil _),.rows ((List.range len).map R) hu ?_,?_⟩
        · by_cases h0 : len = 0
          · subst h0;exact .lst0 _ _
          obtain ⟨cs0,c1,c2,_⟩:=hR 0 (by omega)
          obtain ⟨l0,c3⟩:=cells_at c1
          have hspot:a.spot=none:=by
            have h4:=c3 0 hz0
            rw [List.getElem?_eq_getElem (by omega)] at h4
            simp only [Addr.add,Nat.zero_mul,if_true,World.cell?] at h4
            split at h4
            · split at h4
              · cases h4
              · rename_i hn
                cases hq:a.spot with
                | none=>rfl
                | some s=>rw [hq] at hn;simp at hn
            · cases h4
          have hat:∀ i j,i < len → j < P.cellsOf e → ∃ cs' v,W.cells? 0 (a.add (i * P.cellsOf e)) (P.cellsOf e)=some cs' ∧ cs'[j]?=some v ∧ W.cell? ⟨a.block,a.off + i * P.cellsOf e + j,none⟩=some v:=fun i j hi hj=>by
            obtain ⟨cs',d1,_⟩:=hR i hi
            obtain ⟨l1,d3⟩:=cells_at d1
            refine ⟨cs',cs'[j]'(by omega),d1,List.getElem?_eq_getElem (by omega),?_⟩
            have:=d3 j hj
            rw [List.getElem?_eq_getElem (by omega)] at this
            rw [← this,add_off hspot,add_off rfl]
          have hfin:=VR.lst (G:=⟨fun _=>none,memF W,ρ⟩) (xs:=((List.range len).map R).map (·.1)) (b:=a.block) (o:=a.off) (cap:=cap) (z:=P.cellsOf e) (fun i j=>(W.cell? ⟨a.block,a.off + i * P.cellsOf e + j,none⟩).getD .nilFunc) ?_ ?_ ?_ (by rw [hLl];exact hl)
          · rw [hLl] at hfin
            obtain ⟨ab,ao,asp⟩:=a
            simp only at hspot
            subst hspot
            exact hfin
          · intro i row hr
            rw [List.getElem?_map,List.getElem?_map] at hr
            by_cases hi:i < len
            · rw [List.getElem?_range hi] at hr
              simp only [Option.map_some,Option.some.injEq] at hr
              subst hr
              obtain ⟨cs',d1,d2,_⟩:=hR i hi
              rw [d2.1,(cells_at d1).1]
            · rw [List.getElem?_eq_none (by simp;omega)] at hr;simp at hr
          · intro i j hi hj
            rw [hLl] at hi
            obtain ⟨cs',v,_,_,d3⟩:=hat i j hi hj
            show W.cell? ⟨a.block,a.off + i * P.cellsOf e + j,none⟩=_
            rw [d3];rfl
          · intro i j row c hr hc
            rw [List.getElem?_map,List.getElem?_map] at hr
            by_cases hi:i < len
            · rw [List.getElem?_range hi] at hr
              simp only [Option.map_some,Option.some.injEq] at hr
              subst hr
              obtain ⟨cs',d1,d2,_⟩:=hR i hi
              have hj:j < P.cellsOf e:=by
                have:=(List.getElem?_eq_some_iff.1 hc).1
                rw [d2.1,(cells_at d1).1] at this;exact this
              obtain ⟨cs2,v,e1,e2,e3⟩:=hat i j hi hj
              rw [d1] at e1
              cases e1
              rw [e3]
              exact d2.2 j c v hc e2
            · rw [List.getElem?_eq_none (by simp;omega)] at hr;simp at hr
        · intro r hr
          obtain ⟨i,hi,rfl⟩:=List.mem_map.1 hr
          exact (hR i (List.mem_range.1 hi)).choose_spec.2.2.1
        · have h1 : (((List.range len).map R).map (·.2)).sum ≤ Rows.uptoBulkAll (elems.map (·.1)) := by
            refine bulk_sum (by simp [hlen]) fun i d m hd hm=>?_
            rw [List.getElem?_map,List.getElem?_map] at hm
            rw [List.getElem?_map] at hd
            by_cases hi:i < len
            · rw [List.getElem?_range hi] at hm
              simp only [Option.map_some,Option.some.injEq] at hm
              subst hm
              rw [List.getElem?_eq_getElem (by omega)] at hd
              simp only [Option.map_some,Option.some.injEq] at hd
              subst hd
              exact (hR i hi).choose_spec.2.2.2 _ (List.getElem?_eq_getElem (by omega))
            · rw [List.getElem?_eq_none (by simp;omega)] at hm;simp at hm
          show _ ≤ Rows.uptoBulkAll (elems.map (·.1)) + Rows.uptoBulkAll (rest.map (·.1)) + 1
          omega
    · rename_i fs hu
      rw [Bool.and_eq_true,List.all_eq_true] at hg
      obtain ⟨xs,n,hn,rfl,hcl,hxl,hf⟩:=DataW.trod_struct hu h
      obtain rfl:n=fuel:=by omega
      have key:∀ i:Nat,∃ r:List AV × Nat,∀ f:Field,fs[i]?=some f → VRs ⟨fun _=>none,memF W,ρ⟩ r.1 ((cs.drop f.offset).take (P.cellsOf f.type)) ∧ Sh P r.2 f.type r.1 ∧ ∀ y:DataW H × List MemPlace,xs[i]?=some y → r.2 ≤ Rows.uptoBulk y.1:=fun i=>by
        cases hi:fs[i]? with
        | none=>exact ⟨([],0),fun f h=>by cases h⟩
        | some f =>
          have h1:=hf i f hi
          have hil:i < fs.size:=(Array.getElem?_eq_some_iff.1 hi).1
          rw [List.getElem?_eq_getElem (by omega)] at h1
          have hfS:f.type ∈ S:=by
            have:=hg.1 f (by rw [← Array.getElem?_toList] at hi;exact List.mem_of_getElem? hi)
            simpa using this
          obtain ⟨a',k,v1,v2,v3⟩:=raw_read hS ρ n f.type _ _ hfS h1
          refine ⟨(a',k),fun f' h'=>?_⟩
          cases h'
          exact ⟨v1,v2,fun y hy=>by
            rw [List.getElem?_eq_getElem (by omega)] at hy
            cases hy;exact v3⟩
      obtain ⟨R,hR⟩:=Classical.axiomOfChoice key
      have htile:=tile_flat hcl fs.toList 0 hg.2
      rw [List.drop_zero] at htile
      have hat:∀ i r,(((List.range fs.size).map R))[i]?=some r → r=R i ∧ i < fs.size:=fun i r hr=>by
        rw [List.getElem?_map] at hr
        by_cases hi:i < fs.size
        · rw [List.getElem?_range hi] at hr
          simp only [Option.map_some,Option.some.injEq] at hr
          exact ⟨hr.symm,hi⟩
        · rw [List.getElem?_eq_none (by simp;omega)] at hr;simp at hr
      refine ⟨(((List.range fs.size).map R).map (·.1)).flatten,_,?_,.struct ((List.range fs.size).map R) hu (by simp) ?_,?_⟩
      · rw [← htile]
        refine VRs.flat (by simp) fun i r c hr hc=>?_
        rw [List.getElem?_map] at hr hc
        cases hq:((List.range fs.size).map R)[i]? with
        | none=>rw [hq] at hr;simp at hr
        | some q =>
          rw [hq] at hr
          simp only [Option.map_some,Option.some.injEq] at hr
          obtain ⟨rfl,hi⟩:=hat i q hq
          cases hg2:fs.toList[i]? with
          | none=>rw [hg2] at hc;simp at hc
          | some f =>
            rw [hg2] at hc
            simp only [Option.map_some,Option.some.injEq] at hc
            subst hr;subst hc
            exact (hR i f (by rw [← Array.getElem?_toList];exact hg2)).1
      · intro i f r hi hr
        obtain ⟨rfl,_⟩:=hat i r hr
        exact (hR i f hi).2.1
      · have h1 : (((List.range fs.size).map R).map (·.2)).sum ≤ Rows.uptoBulkAll (xs.map (·.1)) := by
          refine bulk_sum (by simp [hxl]) fun i d m hd hm=>?_
          rw [List.getElem?_map] at hm hd
          cases hq:((List.range fs.size).map R)[i]? with
          | none=>rw [hq] at hm;simp at hm
          | some q =>
            rw [hq] at hm
            simp only [Option.map_some,Option.some.injEq] at hm
            obtain ⟨rfl,hi⟩:=hat i q hq
            cases hy:xs[i]? with
            | none=>rw [hy] at hd;simp at hd
            | some y =>
              rw [hy] at hd
              simp only [Option.map_some,Option.some.injEq] at hd
              subst hd;subst hm
              exact (hR i fs[i] (Array.getElem?_eq_getElem hi)).2.2 y hy
        show _ ≤ Rows.uptoBulkAll (xs.map (·.1)) + 1
        omega
    · cases hg
theorem Sh.inv_int {P:Program} {n:Nat} {t:TypeId} {k:IntKind} {az:List AV} (h:Sh P n t az) (ht:P.underlying t=some (.int k)):∃ x,az=[.int k x] ∧ (Lit.int k x).wf=true ∧ n=1:=by
 cases h with
 | int x hu hw=>rw [ht] at hu;cases hu;exact ⟨x,rfl,hw,rfl⟩
 | bool b hu=>rw [ht] at hu;cases hu
 | str s hu=>rw [ht] at hu;cases hu
 | rows l hu _=>rw [ht] at hu;cases hu
 | struct l hu _ _=>rw [ht] at hu;cases hu
theorem Sh.inv_str {P:Program} {n:Nat} {t:TypeId} {az:List AV} (h:Sh P n t az) (ht:P.underlying t=some .string):∃ s,az=[.str s] ∧ n=s.length + 1:=by
 cases h with
 | int x hu hw=>rw [ht] at hu;cases hu
 | bool b hu=>rw [ht] at hu;cases hu
 | str s hu=>exact ⟨s,rfl,rfl⟩
 | rows l hu _=>rw [ht] at hu;cases hu
 | struct l hu _ _=>rw [ht] at hu;cases hu
theorem Sh.inv_rows {P:Program} {n:Nat} {t e:TypeId} {az:List AV} (h:Sh P n t az) (ht:P.underlying t=some (.slice e)):∃ l:List (List AV × Nat),az=[.lst (l.map (·.1))] ∧ n=(l.map (·.2)).sum + 1 ∧ ∀ r ∈ l,Sh P r.2 e r.1:=by
 cases h with
 | int x hu hw=>rw [ht] at hu;cases hu
 | bool b hu=>rw [ht] at hu;cases hu
 | str s hu=>rw [ht] at hu;cases hu
 | rows l hu h=>rw [ht] at hu;cases hu;exact ⟨l,rfl,rfl,h⟩
 | struct l hu _ _=>rw [ht] at hu;cases hu
theorem Sh.inv_struct {P:Program} {n:Nat} {t:TypeId} {fs:Array Field} {az:List AV} (h:Sh P n t az) (ht:P.underlying t=some (.struct fs)):∃ l:List (List AV × Nat),az=(l.map (·.1)).flatten ∧ n=(l.map (·.2)).sum + 1 ∧ l.length=fs.size ∧ ∀ (i:Nat) f r,fs[i]?=some f → l[i]?=some r → Sh P r.2 f.type r.1:=by
 cases h with
 | int x hu hw=>rw [ht] at hu;cases hu
 | bool b hu=>rw [ht] at hu;cases hu
 | str s hu=>rw [ht] at hu;cases hu
 | rows l hu h=>rw [ht] at hu;cases hu
 | struct l hu hl h=>rw [ht] at hu;cases hu;exact ⟨l,rfl,rfl,hl,h⟩
end
end Go.Ab
namespace Go.Proofs.Ytackdnelcpbfjaa
set_option maxRecDepth 20000
open Go Go.Ab
def intRows (l:List Int):AV:=.lst (l.map fun n=>[.int .i64 n])
theorem intRows_pure (l:List Int):PureA (intRows l):=.map fun n _=>.cons (.int _ _) .nil
theorem maxLen_lt {n:Nat} (h:n ≤ maxLen):n < 2 ^ 63:=Nat.lt_of_le_of_lt h (by decide)
theorem cells_int:Try.prog.cellsOf 3=1:=by kernel_rfl
set_option maxRecDepth 100000 in
theorem seeds_arg {H:Type} {enc:TypeId × Value → H} {W:World} {v0:Value} {r:Reach} {b0:Nat} (k0:Value.okWide Try.prog W r b0 26 v0) {d:DataW H} {ps:List MemPlace} {sp:Nat → Bool} {held:Bool} (h0:DataW.Trod enc Try.prog W 0 sp held 26 v0 d ps):∃ l:List Int,VR ⟨fun _=>none,memF W,fun _=>0⟩ (intRows l) v0 ∧ l.length < 2 ^ 63:=by
 obtain ⟨l,hv,hl⟩:=arg_ints Try.underlying26 Try.underlying3 cells_int k0 h0 (fun _=>none) (fun _=>0)
 exact ⟨l,hv,maxLen_lt hl⟩
end Go.Proofs.Ytackdnelcpbfjaa
namespace Go.Proofs.Ytackdnelcpbfjaa
set_option maxRecDepth 20000
open Go Go.Ab Go.WideShapes
theorem sh_list {α:Type} {f:α → List AV} {sz:List α → Nat} {s1:α → Nat} (hn:sz []=0) (hc:∀ a l,sz (a :: l)=1 + s1 a + sz l):∀ l:List (List AV × Nat),(∀ r ∈ l,∃ x,r.1=f x ∧ s1 x + 1 ≤ r.2) → ∃ xs:List α,l.map (·.1)=xs.map f ∧ sz xs ≤ (l.map (·.2)).sum
 | [],_=>⟨[],rfl,by simp [hn]⟩
 | r :: l, h => by
   obtain ⟨x,e1,h1⟩:=h r List.mem_cons_self
   obtain ⟨xs,e2,h2⟩:=sh_list (f:=f) hn hc l fun q hq=>h q (List.mem_cons_of_mem _ hq)
   exact ⟨x :: xs,by rw [List.map_cons,List.map_cons,e1,e2],by rw [hc,List.map_cons,List.sum_cons];omega⟩
theorem sum_mem {l:List (List AV × Nat)} {r:List AV × Nat} (h:r ∈ l):r.2 ≤ (l.map (·.2)).sum:=by
 induction l with
 | nil=>cases h
 | cons a l ih =>
   rw [List.map_cons,List.sum_cons]
   rcases List.mem_cons.1 h with rfl|h
   · omega
   · have:=ih h;omega
theorem sh_ex : ∀ (n : Nat) {az : List AV}, Sh Try.prog n 39 az → ∃ e : Ex, az = e.cells ∧ e.sz + 1 ≤ n := by
  intro n
  induction n using Nat.strongRecOn with
  | ind n ih =>
    intro az h
    obtain ⟨l,rfl,rfl,hl,hf⟩:=h.inv_struct Try.underlying39
    match l,hl with
    | [r0, r1, r2, r3, r4], _ =>
      obtain ⟨a,ea,_,na⟩:=(hf 0 _ _ rfl rfl).inv_int Try.underlying3
      obtain ⟨b,eb,_,nb⟩:=(hf 1 _ _ rfl rfl).inv_int Try.underlying2
      obtain ⟨c,ec,nc⟩:=(hf 2 _ _ rfl rfl).inv_str Try.underlying9
      obtain ⟨d,ed,_,nd⟩:=(hf 3 _ _ rfl rfl).inv_int Try.underlying3
      obtain ⟨k,ek,nk,hk⟩:=(hf 4 _ _ rfl rfl).inv_rows Try.underlying37
      obtain ⟨xs,e1,h1⟩:=sh_list (f:=Ex.cells) (sz:=exprsSz) (s1:=Ex.sz) (by rw [exprsSz]) (fun a l=>by rw [exprsSz]) k fun r hr=>by
        have:=sum_mem hr
        exact ih r.2 (by simp only [List.map_cons,List.sum_cons];omega) (hk r hr)
      refine ⟨.mk a b c d xs,?_,?_⟩
      · rw [Ex.cells_eq]
        simp only [List.map_cons,List.map_nil,List.flatten_cons,List.flatten_nil,ea,eb,ec,ed,ek,e1];rfl
      · simp only [Ex.sz,List.map_cons,List.map_nil,List.sum_cons,List.sum_nil];omega
theorem sh_exs {n:Nat} {az:List AV} (h:Sh Try.prog n 37 az):∃ l:List Ex,az=[.lst (l.map Ex.cells)] ∧ exprsSz l + 1 ≤ n:=by
 obtain ⟨k,rfl,rfl,hk⟩:=h.inv_rows Try.underlying37
 obtain ⟨xs,e1,h1⟩:=sh_list (f:=Ex.cells) (sz:=exprsSz) (s1:=Ex.sz) (by rw [exprsSz]) (fun a l=>by rw [exprsSz]) k fun r hr=>sh_ex _ (hk r hr)
 exact ⟨xs,by rw [e1],by omega⟩
theorem sh_st : ∀ (n : Nat) {az : List AV}, Sh Try.prog n 46 az → ∃ e : St, az = e.cells ∧ e.sz + 1 ≤ n := by
  intro n
  induction n using Nat.strongRecOn with
  | ind n ih =>
    intro az h
    obtain ⟨l,rfl,rfl,hl,hf⟩:=h.inv_struct Try.underlying46
    match l,hl with
    | [r0, r1, r2, r3, r4, r5, r6, r7, r8], _ =>
      obtain ⟨a,ea,_,na⟩:=(hf 0 _ _ rfl rfl).inv_int Try.underlying3
      obtain ⟨b,eb,nb⟩:=(hf 1 _ _ rfl rfl).inv_str Try.underlying9
      obtain ⟨c,ec,nc⟩:=(hf 2 _ _ rfl rfl).inv_str Try.underlying9
      obtain ⟨d,ed,_,nd⟩:=(hf 3 _ _ rfl rfl).inv_int Try.underlying3
      obtain ⟨x,ex,nx⟩:=sh_ex _ (hf 4 _ _ rfl rfl)
      obtain ⟨y,ey,ny⟩:=sh_ex _ (hf 5 _ _ rfl rfl)
      obtain ⟨z,ez,nz⟩:=sh_exs (hf 6 _ _ rfl rfl)
      obtain ⟨k,ek,nk,hk⟩:=(hf 7 _ _ rfl rfl).inv_rows Try.underlying36
      obtain ⟨q,eq,nq,hq⟩:=(hf 8 _ _ rfl rfl).inv_rows Try.underlying36
      obtain ⟨xs,e1,h1⟩:=sh_list (f:=St.cells) (sz:=stmtsSz) (s1:=St.sz) (by rw [stmtsSz]) (fun a l=>by rw [stmtsSz]) k fun r hr=>by
        have:=sum_mem hr
        exact ih r.2 (by simp only [List.map_cons,List.sum_cons];omega) (hk r hr)
      obtain ⟨ys,e2,h2⟩:=sh_list (f:=St.cells) (sz:=stmtsSz) (s1:=St.sz) (by rw [stmtsSz]) (fun a l=>by rw [stmtsSz]) q fun r hr=>by
        have:=sum_mem hr
        exact ih r.2 (by simp only [List.map_cons,List.sum_cons];omega) (hq r hr)
      refine ⟨.mk a b c d x y z xs ys,?_,?_⟩
      · rw [St.cells_eq]
        simp only [List.map_cons,List.map_nil,List.flatten_cons,List.flatten_nil,ea,eb,ec,ed,ex,ey,ez,ek,eq,e1,e2,Ex.cells_eq];rfl
      · simp only [St.sz,List.map_cons,List.map_nil,List.sum_cons,List.sum_nil];omega
theorem sh_strs {n:Nat} {az:List AV} (h:Sh Try.prog n 35 az):∃ l:List (List UInt8),az=[lstS l] ∧ strsSz l + 1 ≤ n:=by
 obtain ⟨k,rfl,rfl,hk⟩:=h.inv_rows Try.underlying35
 obtain ⟨xs,e1,h1⟩:=sh_list (f:=fun s:List UInt8=>[AV.str s]) (sz:=strsSz) (s1:=fun s=>s.length) (by rw [strsSz]) (fun a l=>by rw [strsSz]) k fun r hr=>by
   obtain ⟨s,e,h⟩:=(hk r hr).inv_str Try.underlying9
   exact ⟨s,e,by omega⟩
 exact ⟨xs,by rw [e1],by omega⟩
theorem sh_fu {n:Nat} {az:List AV} (h:Sh Try.prog n 41 az):∃ f:Fu,az=f.cells ∧ f.sz + 1 ≤ n:=by
 obtain ⟨l,rfl,rfl,hl,hf⟩:=h.inv_struct Try.underlying41
 match l,hl with
 | [r0, r1, r2, r3, r4], _ =>
   obtain ⟨a,ea,na⟩:=(hf 0 _ _ rfl rfl).inv_str Try.underlying9
   obtain ⟨b,eb,nb⟩:=sh_strs (hf 1 _ _ rfl rfl)
   obtain ⟨c,ec,nc⟩:=sh_strs (hf 2 _ _ rfl rfl)
   obtain ⟨k,ek,nk,hk⟩:=(hf 3 _ _ rfl rfl).inv_rows Try.underlying36
   obtain ⟨xs,e1,h1⟩:=sh_list (f:=St.cells) (sz:=stmtsSz) (s1:=St.sz) (by rw [stmtsSz]) (fun a l=>by rw [stmtsSz]) k fun r hr=>sh_st _ (hk r hr)
   obtain ⟨x,ex,nx⟩:=sh_ex _ (hf 4 _ _ rfl rfl)
   refine ⟨⟨a,b,c,xs,x⟩,?_,?_⟩
   · rw [Fu.cells_eq]
     simp only [List.map_cons,List.map_nil,List.flatten_cons,List.flatten_nil,ea,eb,ec,ek,ex,e1,Ex.cells_eq];rfl
   · simp only [Fu.sz,List.map_cons,List.map_nil,List.sum_cons,List.sum_nil];omega
theorem sh_ar {n:Nat} {az:List AV} (h:Sh Try.prog n 44 az):∃ a:Ar,az=a.cells ∧ a.name.length + 1 ≤ n:=by
 obtain ⟨l,rfl,rfl,hl,hf⟩:=h.inv_struct Try.underlying44
 match l,hl with
 | [r0, r1], _ =>
   obtain ⟨a,ea,na⟩:=(hf 0 _ _ rfl rfl).inv_str Try.underlying9
   obtain ⟨b,eb,_,nb⟩:=(hf 1 _ _ rfl rfl).inv_int Try.underlying3
   refine ⟨⟨a,b⟩,?_,?_⟩
   · rw [Ar.cells_eq]
     simp only [List.map_cons,List.map_nil,List.flatten_cons,List.flatten_nil,ea,eb];rfl
   · simp only [List.map_cons,List.map_nil,List.sum_cons,List.sum_nil];omega
theorem sh_pr {n:Nat} {az:List AV} (h:Sh Try.prog n 25 az):∃ p:Pr,az=p.cells ∧ p.sz ≤ n:=by
 obtain ⟨l,rfl,rfl,hl,hf⟩:=h.inv_struct Try.underlying25
 match l,hl with
 | [r0, r1], _ =>
   obtain ⟨k,ek,nk,hk⟩:=(hf 0 _ _ rfl rfl).inv_rows Try.underlying22
   obtain ⟨q,eq,nq,hq⟩:=(hf 1 _ _ rfl rfl).inv_rows Try.underlying23
   obtain ⟨xs,e1,h1⟩:=sh_list (f:=Ar.cells) (sz:=arrsSz) (s1:=fun a=>a.name.length) (by rw [arrsSz]) (fun a l=>by rw [arrsSz]) k fun r hr=>sh_ar (hk r hr)
   obtain ⟨ys,e2,h2⟩:=sh_list (f:=Fu.cells) (sz:=fnsSz) (s1:=Fu.sz) (by rw [fnsSz]) (fun a l=>by rw [fnsSz]) q fun r hr=>sh_fu (hq r hr)
   refine ⟨⟨xs,ys⟩,?_,?_⟩
   · rw [Pr.cells_eq]
     simp only [List.map_cons,List.map_nil,List.flatten_cons,List.flatten_nil,ek,eq,e1,e2];rfl
   · simp only [Pr.sz,List.map_cons,List.map_nil,List.sum_cons,List.sum_nil];omega
def progT:List TypeId:=[25,22,44,23,41,35,9,3,2,36,46,37,39]
theorem progT_good:goodT Try.prog progT=true:=by kernel_rfl
set_option maxRecDepth 100000 in
theorem prog_arg {H:Type} {enc:TypeId × Value → H} {W:World} {v0:Value} {r:Reach} {b0:Nat} (k0:Value.okWide Try.prog W r b0 25 v0) {d:DataW H} {ps:List MemPlace} {sp:Nat → Bool} {held:Bool} (h0:DataW.Trod enc Try.prog W 0 sp held 25 v0 d ps):∃ p:Pr,VR ⟨fun _=>none,memF W,fun _=>0⟩ (.agg p.cells) v0 ∧ p.sz ≤ Rows.uptoBulk d:=by
 obtain ⟨fuel,hf⟩:=h0
 obtain ⟨az,n,h1,h2,h3⟩:=raw_read progT_good (fun _=>0) fuel _ _ _ List.mem_cons_self hf
 obtain ⟨p,rfl,hp⟩:=sh_pr h2
 refine ⟨p,?_,Nat.le_trans hp h3⟩
 obtain ⟨cs,rfl,_⟩:=okWide_struct Try.underlying25 k0
 have:=VR.agg (G:=⟨fun _=>none,memF W,fun _=>0⟩) (cs:=p.cells) (vs:=cs.toList) h1.1 h1.2
 rw [Array.toArray_toList] at this
 exact this
end Go.Proofs.Ytackdnelcpbfjaa
