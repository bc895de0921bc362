/- Parts: MuP, MuQ0, MuQa, MuQc, MuQb, MuQd, MuQe. -/
import Derived.Test.YtackdnelcpbfjaaSRP
set_option linter.unusedSimpArgs false
set_option linter.unusedVariables false
set_option linter.unusedSectionVars false
set_option linter.defProp false
set_option maxHeartbeats 32000000
namespace Go.Proofs.Ytackdnelcpbfjaa
set_option maxRecDepth 20000
open Go Go.Ab
def nmsF1:List (List UInt8):=[[103],[105,102],[],[97],[116,111,111,108,111,110,103,97,110,97,109,101,49,50,51,52,53],[57,120]]
def nmsF2:List (List UInt8):=[[120],[110],[97],[122],[114,101,116,117,114,110],[95]]
def nmsF3:List (List UInt8):=[[105],[98],[113],[120,32,121],[119,104,105,108,101]]
def nmsF6:List (List UInt8):=[[97],[99],[120],[102],[111,117,116]]
def nmsF17:List (List UInt8):=[[102],[104]]
def numN (n:Int):Ex:=.mk 1 n [] 0 []
def notsE:Nat → Ex → Ex
 | 0,e=>e
 | n + 1,e=>.mk 4 0 [] 21 [notsE n e]
def ifsB:Nat → List St → List St
 | 0,b=>b
 | n + 1,b=>[.mk 3 [] [] 0 zE (numN 0) [] (ifsB n b) []]
def whlS:St:=.mk 4 [] [] 0 zE (numN 0) [] [] []
def outS (i:Nat):St:=.mk 5 [] [] 0 zE (numN i) [] [] []
end Go.Proofs.Ytackdnelcpbfjaa
namespace Go.Proofs.Ytackdnelcpbfjaa
set_option maxRecDepth 20000
set_option maxRecDepth 20000
open Go Go.Ab
namespace tyMuQ0
def tyF:=And.intro @tq2 (And.intro @tq3 (And.intro @tq5 (And.intro @tq9 (And.intro @tq22 (And.intro @tq23 (And.intro @tq25 (And.intro @tq35 (And.intro @tq36 (And.intro @tq37 (And.intro @tq39 (And.intro @tq41 (And.intro @tq44 (And.intro @tq46 (And.intro @tq84 (@cv3_5)))))))))))))))
end tyMuQ0
open tyMuQ0
noncomputable def code12:{ c:SC // slim 285 (Try.f12.body.getD .skip)=c }:=by
 refine ⟨?_,?_⟩
 rotate_left
 · simp only [Try.f12, Option.getD_some, slim, slimR, slimL, slimD, slimG, Nat.blt, Nat.ble]
   rfl
def hasSl : Nat → AV → Bool
 | 0,_=>false
 | n + 1, v => match v with
   | .sl _ _ _ _=>true
   | .agg cs=>cs.any (hasSl n)
   | _=>false
theorem ic_noSlL {S:Nat → Prop} {H:Hp} {n m k:Nat} (ih:∀ {v u:AV},Ic S n H v u → hasSl m (wkN k v)=false → wkN k u=wkN k v):∀ {cs ds:List AV},All2 (Ic S n H) cs ds → (cs.map (wkN k)).any (hasSl m)=false → ds.map (wkN k)=cs.map (wkN k)
 | [],[],_,_=>rfl
 | c :: cs, d :: ds, h, h2 => by
   simp only [List.map_cons,List.any_cons,Bool.or_eq_false_iff] at h2
   rw [List.map_cons,List.map_cons,ih h.1 h2.1,ic_noSlL ih h.2 h2.2]
theorem ic_noSl {S : Nat → Prop} {H : Hp} : ∀ (n m k : Nat) {v u : AV}, n ≤ m → Ic S n H v u → hasSl m (wkN k v) = false → wkN k u = wkN k v
  | 0,_,_,_,_,_,h,_=>h.elim
  | n + 1,0,_,_,_,h,_,_=>by omega
  | n + 1, m + 1, k, v, u, hm, h, h2 => by
    cases v with
    | sl r o l z=>cases k <;> simp [wkN,hasSl] at h2
    | agg cs =>
      obtain ⟨ds,h1,rfl⟩:=h
      cases k with
      | zero =>
        have e:∀ v,wkN 0 v=v:=fun v=>by cases v <;> rfl
        have h3:(cs.map (wkN 0)).any (hasSl m)=false:=by
          rw [show cs.map (wkN 0)=cs by rw [show wkN 0=id from funext e,List.map_id]]
          simpa [wkN,hasSl] using h2
        have:=ic_noSlL (k:=0) (fun h4 h5=>ic_noSl n m 0 (by omega) h4 h5) h1 h3
        rw [show wkN 0=id from funext e,List.map_id,List.map_id] at this
        rw [this]
      | succ k =>
        have h3:(cs.map (wkN k)).any (hasSl m)=false:=by simpa [wkN,hasSl] using h2
        show AV.agg (ds.map (wkN k))=AV.agg (cs.map (wkN k))
        rw [ic_noSlL (fun h4 h5=>ic_noSl n m k (by omega) h4 h5) h1 h3]
    | _=>obtain ⟨_,rfl⟩:=h;rfl
theorem WpCall.enX {l:List En} {fn:FuncId} {α:Type} {ok:α → Prop} {enc:α → List AV} {out:α → AV} (inj:∀ x y,enc x=enc y → x=y) (hl:∀ ar,lookN l fn ar=spP ok enc out (ar.map (wkN 60))) (hi:iceN l fn=true) (hns:∀ y,(enc y).any (hasSl 90)=false) {x:α} (hx:ok x) {S:Nat → Prop} {n:Nat} (hn:n ≤ 90) {H:Hp} {args us:List AV} (h1:All2 (Ic S n H) args us) (h2:us.map (wkN 60)=enc x) :
   WpCall Try.prog (cfgN pls l) fn args H fun v H'=>v=out x ∧ Icy S H H':=by
 by_cases hd:∃ y,ok y ∧ enc y=args.map (wkN 60)
 · obtain ⟨y, _, e⟩ := hd
   have h3:us.map (wkN 60)=args.map (wkN 60):=ic_noSlL (m:=90) (fun h4 h5=>ic_noSl n 90 60 hn h4 h5) h1 (by rw [← e];exact hns y)
   refine WpCall.mono ?_ (WpCall.kn (r:=out x) (by show lookN l fn args=_;rw [hl,← h3,h2];exact spP_enc inj hx))
   rintro v H' ⟨rfl,rfl⟩
   exact ⟨rfl,Icy.refl _ _⟩
 · obtain ⟨H', h4, h5⟩ := Ic.iceL (n := 100) (l := args) (m := us) (All2.mono (fun a b k => Ic.up k (by omega)) h1)
   refine WpCall.iced (r:=out x) ?_ hi rfl h4 ?_ ⟨rfl,h5⟩
   · show lookN l fn args = none
     rw [hl]
     exact spP_none fun y hy e=>hd ⟨y,hy,e⟩
   · show lookN l fn us = _
     rw [hl,h2]
     exact spP_enc inj hx
theorem mutEM {l:List En} (hl:∀ ar,lookN l 34 ar=(enW enMutE).sp ar) (hi:iceN l 34=true) {S:Nat → Prop} {n:Nat} {H:Hp} {cs:List AV} {e:Ex} (hn:n < 59) (hc:CellsW S n H cs e.cells) (hz:e.sz < 2 ^ 36) (k a:Int) :
   WpCall Try.prog (cfgN pls l) 34 [.agg cs,.int .i64 k,.int .i64 a] H fun v H'=>v=.agg (mutE e k a).cells ∧ Icy S H H':=by
 obtain ⟨us,h1,h2⟩:=hc
 refine WpCall.enX (x:=(⟨e,k,a⟩:MuA)) (enc:=muE) (ok:=fun y=>y.x.sz < 2 ^ 36) (out:=fun y=>.agg (mutE y.x y.how y.a).cells) (us:=[.agg us,.int .i64 k,.int .i64 a]) (n:=n + 1) muE_inj (fun ar=>by rw [hl];rfl) hi (fun y=>?_) hz (by omega) ⟨⟨us,h1,rfl⟩,Ic.flat ⟨.int _ _,trivial⟩,Ic.flat ⟨.int _ _,trivial⟩,trivial⟩ ?_
 · obtain ⟨x, _, _⟩ := y
   simp only [muE,Ex.cells_eq];rfl
 · show [AV.agg (us.map (wkN 59)), .int .i64 k, .int .i64 a] = _
   rw [h2 59 (by omega)];rfl
noncomputable def enMutS:En:=⟨35,true,spP (fun y=>y.x.sz < 2 ^ 36) mbE fun y=>.agg (mutS y.x y.how y.a).cells⟩
theorem enMutS_ok (ρ:Nat → Int):EnOk Try.prog ρ enMutS:=spP_ok fun y hy=>mutS_con ρ y hy
theorem mutSM {l:List En} (hl:∀ ar,lookN l 35 ar=(enW enMutS).sp ar) (hi:iceN l 35=true) {S:Nat → Prop} {n:Nat} {H:Hp} {cs:List AV} {e:St} (hn:n < 59) (hc:CellsW S n H cs e.cells) (hz:e.sz < 2 ^ 36) (k a:Int) :
   WpCall Try.prog (cfgN pls l) 35 [.agg cs,.int .i64 k,.int .i64 a] H fun v H'=>v=.agg (mutS e k a).cells ∧ Icy S H H':=by
 obtain ⟨us,h1,h2⟩:=hc
 refine WpCall.enX (x:=(⟨e,k,a⟩:MuB)) (enc:=mbE) (ok:=fun y=>y.x.sz < 2 ^ 36) (out:=fun y=>.agg (mutS y.x y.how y.a).cells) (us:=[.agg us,.int .i64 k,.int .i64 a]) (n:=n + 1) mbE_inj (fun ar=>by rw [hl];rfl) hi (fun y=>?_) hz (by omega) ⟨⟨us,h1,rfl⟩,Ic.flat ⟨.int _ _,trivial⟩,Ic.flat ⟨.int _ _,trivial⟩,trivial⟩ ?_
 · obtain ⟨x, _, _⟩ := y
   simp only [mbE,St.cells_eq];rfl
 · show [AV.agg (us.map (wkN 59)), .int .i64 k, .int .i64 a] = _
   rw [h2 59 (by omega)];rfl
structure MutL (lG:List En):Prop extends GenL lG where
 me:∀ ar,lookN lG 34 ar=(enW enMutE).sp ar
 mei:iceN lG 34=true
 ms:∀ ar,lookN lG 35 ar=(enW enMutS).sp ar
 msi:iceN lG 35=true
 plm:(∀ ar,lookN lG 12 ar=none) ∧ iceN lG 12=false
theorem MutI.upd {i:Nat} {pt pt':Nat → Nat} {lo b b' n b2 b2' n':Nat} {H H':Hp} {ra rf:Nat} {x y x' y':Int} {f g f' g':Fu} {pf lf bf:AV} {vf:List AV} {pg lg bg:AV} {vg:List AV} {pf' lf' bf':AV} {vf':List AV} {pg' lg' bg':AV} {vg':List AV} {P:Nat} {Hs:Hp} (h:ProgX i pt lo b b' n H ra rf x y f g pf lf bf vf pg lg bg vg) (hP:pt P=0) (hP2:P < H.next) (gp:H.get P=some (.cells [.sl ra 0 2 2,.sl rf 0 2 9] 0 true)) (old:∀ q,q < lo → H.get q=Hs.get q)
   (h':ProgX i pt' lo b2 b2' n' H' ra rf x' y' f' g' pf' lf' bf' vf' pg' lg' bg' vg') (hP':pt' P=0) (hn:H.next ≤ H'.next) (hk:∀ q,q < H.next → pt q=0 → H'.get q=H.get q) (hn':n' ≤ 48) (h1:f'.sz < 2 ^ 28) (h2:g'.sz < 2 ^ 28) (h3:f'.name ≠ zzN) (h4:g'.name ≠ zzN):MutI lo P Hs H':=
 MutI.of h' hP' (by omega) ((hk P hP2 hP).trans gp) (fun q hq=>(hk q (Nat.lt_of_lt_of_le hq h.hlo) (h.lab q hq)).trans (old q hq)) hn' h1 h2 h3 h4
section
variable {i:Nat} {pt:Nat → Nat} {lo b b' n:Nat} {H:Hp} {ra rf:Nat} {x y:Int} {f g:Fu} {pf lf bf:AV} {v0 v1 v2 v3 v4:AV} {pg lg bg:AV} {w0 w1 w2 w3 w4:AV}
theorem ProgX.gf0 (h:ProgX 0 pt lo b b' n H ra rf x y f g pf lf bf [v0,v1,v2,v3,v4] pg lg bg [w0,w1,w2,w3,w4]):H.get rf=some (.cells [.str f.name,pf,lf,bf,v0,v1,v2,v3,v4,.str g.name,pg,lg,bg,w0,w1,w2,w3,w4] 0 true):=h.gf
theorem ProgX.gf1 (h:ProgX 1 pt lo b b' n H ra rf x y f g pf lf bf [v0,v1,v2,v3,v4] pg lg bg [w0,w1,w2,w3,w4]):H.get rf=some (.cells [.str g.name,pg,lg,bg,w0,w1,w2,w3,w4,.str f.name,pf,lf,bf,v0,v1,v2,v3,v4] 0 true):=h.gf
end
theorem strsSz_app:∀ a b:List (List UInt8),strsSz (a ++ b)=strsSz a + strsSz b
 | [],b=>by rw [List.nil_append,strsSz];omega
 | x :: a,b=>by rw [List.cons_append,strsSz,strsSz,strsSz_app a b];omega
theorem nmx_len {l:List (List UInt8)} (h:∀ s ∈ l,s.length ≤ 17) (j:Nat):(l.getD j []).length ≤ 17:=by
 rw [List.getD_eq_getElem?_getD]
 cases e:l[j]? with
 | none=>simp
 | some s=>exact h s (List.mem_of_getElem? e)
theorem nmx_ne {l:List (List UInt8)} (h:∀ s ∈ l,s ≠ zzN) (j:Nat):l.getD j [] ≠ zzN:=by
 rw [List.getD_eq_getElem?_getD]
 cases e:l[j]? with
 | none=>intro h;cases h
 | some s=>exact h s (List.mem_of_getElem? e)
def scB:SC → SC
 | .block _ b=>b
 | x=>x
def scL:SC → SC
 | .seq a _=>a
 | x=>x
noncomputable def mpBody:SC:=scR (scL (scR (scR (scR (scR code12.1)))))
theorem u8_allM:((List.range 20).all fun i=>decide (UInt8.ofNat (IntKind.wrap .u8 (97 + (i:Int))).toNat=UInt8.ofNat (97 + i)))=true:=by kernel_rfl
theorem u8_atM {i:Nat} (h:i < 20):UInt8.ofNat (IntKind.wrap .u8 (97 + (i:Int))).toNat=UInt8.ofNat (97 + i):=by
 have:=u8_allM
 simp only [List.all_eq_true,List.mem_range,decide_eq_true_eq] at this
 exact this i h
theorem bsU1M (H:Hp) (n:Int):buildSliceA Try.prog H 84 1 [(0,.int .u8 n)]=some (.sl H.next 0 1 1,H.alloc (.cells [.int .u8 n] 0 true)):=by kernel_rfl
theorem cvUM {H:Hp} {r:Nat} {n:Int} (hg:H.get r=some (.cells [.int .u8 n] 0 true)):convertA Try.prog H 84 9 (.sl r 0 1 1)=some (.str [UInt8.ofNat n.toNat]):=by
 have hx:srcCells H 1 (.sl r 0 1 1)=some (1,[.int .u8 n]):=src_sl (H:=H) (r:=r) (o:=0) (n:=1) (z:=1) (s:=1) hg (by simp)
 simp only [convertA,Try.underlying84,Try.underlying9,Try.underlying5,hx]
 rfl
theorem bE1n (n:Int):buildA Try.prog 39 [(0,.int .i64 1),(1,.int .i64 n)]=some (.agg [.int .i64 1,.int .i64 n,.str [],.int .i64 0,.nilS]):=by kernel_rfl
def vLs (c:UInt8) (j:Nat):List (List UInt8):=(List.range j).map fun j=>[c,UInt8.ofNat (97 + j)]
theorem vLs_succ (c:UInt8) (j:Nat):vLs c (j + 1)=vLs c j ++ [[c,UInt8.ofNat (97 + j)]]:=by simp [vLs,List.range_succ]
theorem vLs_len (c:UInt8) (j:Nat):(vLs c j).length=j:=by simp [vLs]
theorem vLs_sz (c:UInt8):∀ j,strsSz (vLs c j) ≤ 20 * j
 | 0=>by simp [vLs,strsSz]
 | j + 1 => by
   have:=vLs_sz c j
   rw [vLs_succ,strsSz_app]
   simp only [strsSz,List.length_cons,List.length_nil]
   omega
def outs (j:Nat):List St:=(List.range j).map outS
theorem outs_succ (j:Nat):outs (j + 1)=outs j ++ [outS j]:=by simp [outs,List.range_succ]
theorem outs_sz:∀ j,stmtsSz (outs j) ≤ 20 * j
 | 0=>by simp [outs,stmtsSz]
 | j + 1 => by
   have:=outs_sz j
   rw [outs_succ,stmtsSz_app]
   simp only [stmtsSz,outS,St.sz,numN,zE,Ex.sz,exprsSz,List.length_nil]
   omega
def whls (j:Nat):List St:=List.replicate j whlS
theorem whls_succ (j:Nat):whls (j + 1)=whls j ++ [whlS]:=by rw [whls,List.replicate_succ'];rfl
theorem whls_sz:∀ j,stmtsSz (whls j) ≤ 20 * j
 | 0=>by simp [whls,stmtsSz]
 | j + 1 => by
   have:=whls_sz j
   rw [whls_succ,stmtsSz_app]
   simp only [stmtsSz,whlS,St.sz,numN,zE,Ex.sz,exprsSz,List.length_nil]
   omega
theorem outs_len (j:Nat):(outs j).length=j:=by simp [outs]
theorem whls_len (j:Nat):(whls j).length=j:=by simp [whls]
structure AtM (i:Nat) (a h k:Int) (lo m P:Nat) (Hs H:Hp) (ra rf:Nat) (x y:Int) (f g:Fu) (pf lf bf:AV) (vf:List AV) (pg lg bg:AV) (vg:List AV) (E:Env):Prop where
 X:∃ pt b b',ProgX i pt lo b b' 14 H ra rf x y f g pf lf bf vf pg lg bg vg ∧ pt P=0
 hi:i=0 ∨ i=1
 hm:m < lo
 loP:lo ≤ P
 ltP:P < H.next
 gp:H.get P=some (.cells [.sl ra 0 2 2,.sl rf 0 2 9] 0 true)
 old:∀ q,q < lo → H.get q=Hs.get q
 fs:f.sz < 2 ^ 24
 gs:g.sz < 2 ^ 24
 fn:f.name ≠ zzN
 gn:g.name ≠ zzN
 hpi:pickG a 2=i
 k2:E.at 2=.int .i64 a
 k6:E.at 6=.ptr m 0
 k7:E.at 7=.ptr P 0
 k8:E.at 8=.ptr rf (9 * i)
 k9:E.at 9=.int .i64 k
 k27:E.at 27=.int .i64 h
def TailM (lo m P:Nat) (Hs:Hp):AX → Env → Hp → Prop:=fun x E' H'=>x=.normal ∧ E'.at 6=.ptr m 0 ∧ E'.at 7=.ptr P 0 ∧ MutI lo P Hs H'
end Go.Proofs.Ytackdnelcpbfjaa
namespace Go.Proofs.Ytackdnelcpbfjaa
set_option maxRecDepth 20000
set_option maxRecDepth 20000
open Go Go.Ab
namespace tyMuQa
def tyF:=And.intro @tq2 (And.intro @tq3 (And.intro @tq5 (And.intro @tq9 (And.intro @tq22 (And.intro @tq23 (And.intro @tq25 (And.intro @tq35 (And.intro @tq36 (And.intro @tq37 (And.intro @tq39 (And.intro @tq41 (And.intro @tq44 (And.intro @tq46 (And.intro @tq84 (And.intro @cv3_5 (@bsS1'))))))))))))))))
end tyMuQa
open tyMuQa
set_option maxRecDepth 100000 in
theorem mpNone {lG:List En} (hG:MutL lG) {i:Nat} {a h k:Int} {lo m P:Nat} {Hs H:Hp} {ra rf:Nat} {x y:Int} {f g:Fu} {pf lf bf:AV} {vf:List AV} {pg lg bg:AV} {vg:List AV} {E:Env} (hat:AtM i a h k lo m P Hs H ra rf x y f g pf lf bf vf pg lg bg vg E) (hh:(∀ j ∈ [1,2,3,4,5,6,7,8,9,10,11,12,13,14,15,16,17,18],h ≠ j)):Wp Try.prog (cfgN pls lG) 12 285 mpBody E H (TailM lo m P Hs):=by
 obtain ⟨⟨pt,b,b',hX,hPt⟩,hi,hm,loP,ltP,gp,old,fs,gs,fn,gn,hpi,k2,k6,k7,k8,k9,k27⟩:=hat
 have hkeep:(cfgN pls lG).keep 12=false:=rfl
 skip
 obtain ⟨v0,v1,v2,v3,v4,rfl⟩:=len5 hX.F.len
 obtain ⟨w0,w1,w2,w3,w4,rfl⟩:=len5 hX.G.len
 obtain ⟨z0,z1,z2,z3,z4⟩:=all5 hX.F.one
 have ltA:=hX.ltA
 have ltF:=hX.ltF
 have hlo:=hX.hlo
 have hbb:=hX.hb
 have lrf:=hX.lrf
 have lra:=hX.lra
 have rfP:rf ≠ P:=fun e=>by rw [e] at lrf;omega
 have raP:ra ≠ P:=fun e=>by rw [e] at lra;omega
 have hrr:=hX.ne
 have lof:=hX.lo_of (q:=rf) (by omega)
 have loa:=hX.lo_of (q:=ra) (by omega)
 have e1:(rf == H.next)=false:=ne_beq (by omega)
 have e2:(rf == H.next + 1)=false:=ne_beq (by omega)
 have e3:(rf == H.next + 2)=false:=ne_beq (by omega)
 have e4:(H.next == rf)=false:=ne_beq (by omega)
 have e5:(rf == P)=false:=ne_beq rfP
 have e6:(P == rf)=false:=ne_beq (Ne.symm rfP)
 have e7:(P == H.next)=false:=ne_beq (by omega)
 have e8:(P == H.next + 1)=false:=ne_beq (by omega)
 have e9:(ra == H.next)=false:=ne_beq (by omega)
 have e10:(ra == H.next + 1)=false:=ne_beq (by omega)
 simp only [List.forall_mem_cons,List.not_mem_nil,false_implies,implies_true,and_true] at hh
 dsimp only [mpBody,scB,scL,scR,code12]
 repeat' (first
    | (apply Rx.nl ?_;clear hK K)|apply Ry.o ?_|(apply Ry.cd (fun hb hbp=>?_) (fun hb hbp=>?_) <;> try (cases hb;done))|apply Wp.seq ?_|(apply Wp.ops' fun K hK=>?_)|apply Wp.block ?_|apply Rx.sk ?_)
 exact ⟨rfl,eE,eE,MutI.of hX hPt ltP gp old (by omega) (by omega) (by omega) fn gn⟩
set_option maxRecDepth 100000 in
theorem mp1 {lG:List En} (hG:MutL lG) {i:Nat} {a h k:Int} {lo m P:Nat} {Hs H:Hp} {ra rf:Nat} {x y:Int} {f g:Fu} {pf lf bf:AV} {vf:List AV} {pg lg bg:AV} {vg:List AV} {E:Env} (hat:AtM i a h k lo m P Hs H ra rf x y f g pf lf bf vf pg lg bg vg E) (hh:h=1):Wp Try.prog (cfgN pls lG) 12 285 mpBody E H (TailM lo m P Hs):=by
 obtain ⟨⟨pt,b,b',hX,hPt⟩,hi,hm,loP,ltP,gp,old,fs,gs,fn,gn,hpi,k2,k6,k7,k8,k9,k27⟩:=hat
 have hkeep:(cfgN pls lG).keep 12=false:=rfl
 subst hh
 obtain ⟨v0,v1,v2,v3,v4,rfl⟩:=len5 hX.F.len
 obtain ⟨w0,w1,w2,w3,w4,rfl⟩:=len5 hX.G.len
 obtain ⟨z0,z1,z2,z3,z4⟩:=all5 hX.F.one
 have ltA:=hX.ltA
 have ltF:=hX.ltF
 have hlo:=hX.hlo
 have hbb:=hX.hb
 have lrf:=hX.lrf
 have lra:=hX.lra
 have rfP:rf ≠ P:=fun e=>by rw [e] at lrf;omega
 have raP:ra ≠ P:=fun e=>by rw [e] at lra;omega
 have hrr:=hX.ne
 have lof:=hX.lo_of (q:=rf) (by omega)
 have loa:=hX.lo_of (q:=ra) (by omega)
 have e1:(rf == H.next)=false:=ne_beq (by omega)
 have e2:(rf == H.next + 1)=false:=ne_beq (by omega)
 have e3:(rf == H.next + 2)=false:=ne_beq (by omega)
 have e4:(H.next == rf)=false:=ne_beq (by omega)
 have e5:(rf == P)=false:=ne_beq rfP
 have e6:(P == rf)=false:=ne_beq (Ne.symm rfP)
 have e7:(P == H.next)=false:=ne_beq (by omega)
 have e8:(P == H.next + 1)=false:=ne_beq (by omega)
 have e9:(ra == H.next)=false:=ne_beq (by omega)
 have e10:(ra == H.next + 1)=false:=ne_beq (by omega)
 have hr:=pickG_range (n:=k) (m:=6) (by omega) (by omega)
 have hr0:=hr.1
 have hnm:=nm_at nmsF1 (n:=pickG k 6) (by show _ < 6;omega)
 have hix:=fun r=>ixSt r 6 hr.1 (by omega)
 have hbs:=fun H=>bs6 H [103] [105,102] [] [97] [116,111,111,108,111,110,103,97,110,97,109,101,49,50,51,52,53] [57,120]
 change ∀ H,buildSliceA _ H _ _ _=some (_,H.alloc (.cells (nmsF1.map .str) 0 true)) at hbs
 rcases hi with rfl|rfl
 all_goals
   simp only [Nat.mul_zero,Nat.mul_one] at k8
   first|have gf:=hX.gf0|have gf:=hX.gf1
   dsimp only [mpBody,scB,scL,scR,code12]
   repeat' (first
      | (apply Rx.nl ?_;clear hK K)|apply Ry.o ?_|apply Ry.on ?_|(apply Ry.call ?_;first|refine Rx.k (pick_en hG.pick k 6 (by decide) _) ?_)|(apply Ry.cd (fun hb hbp=>?_) (fun hb hbp=>?_) <;> try (cases hb;done))|apply Wp.seq ?_|(apply Wp.ops' fun K hK=>?_)|apply Wp.block ?_)
   refine ⟨rfl,eE,eE,MutI.upd hX hPt ltP gp old (hX.setA (x':=x) (y':=y) (nf:=nmsF1.getD (pickG k 6).toNat []) ?_ ?_ ?_ ?_) hPt ?_ ?_ (by omega) ?_ (by omega) (nmx_ne (by decide) _) gn⟩
   · simp only [Hp.next_set,Hp.next_alloc];omega
   · intro q _ h1 h2 h3;rw [Hp.get_set,if_neg h3,alloc_old h1]
   · rw [Hp.get_set,if_neg (by omega),alloc_old ltA];exact hX.ga
   · rw [Hp.get_set,if_pos rfl];rfl
   · simp only [Hp.next_set,Hp.next_alloc];omega
   · intro q h1 h2;rw [Hp.get_set,if_neg (fun e=>by rw [e] at h2;omega),alloc_old h1]
   · have := nmx_len (l := nmsF1) (by decide) (pickG k 6).toNat
     simp only [Fu.sz] at fs ⊢;omega
set_option maxRecDepth 100000 in
theorem mp2 {lG:List En} (hG:MutL lG) {i:Nat} {a h k:Int} {lo m P:Nat} {Hs H:Hp} {ra rf:Nat} {x y:Int} {f g:Fu} {pf lf bf:AV} {vf:List AV} {pg lg bg:AV} {vg:List AV} {E:Env} (hat:AtM i a h k lo m P Hs H ra rf x y f g pf lf bf vf pg lg bg vg E) (hh:h=2):Wp Try.prog (cfgN pls lG) 12 285 mpBody E H (TailM lo m P Hs):=by
 obtain ⟨⟨pt,b,b',hX,hPt⟩,hi,hm,loP,ltP,gp,old,fs,gs,fn,gn,hpi,k2,k6,k7,k8,k9,k27⟩:=hat
 have hkeep:(cfgN pls lG).keep 12=false:=rfl
 subst hh
 obtain ⟨v0,v1,v2,v3,v4,rfl⟩:=len5 hX.F.len
 obtain ⟨w0,w1,w2,w3,w4,rfl⟩:=len5 hX.G.len
 obtain ⟨z0,z1,z2,z3,z4⟩:=all5 hX.F.one
 have ltA:=hX.ltA
 have ltF:=hX.ltF
 have hlo:=hX.hlo
 have hbb:=hX.hb
 have lrf:=hX.lrf
 have lra:=hX.lra
 have rfP:rf ≠ P:=fun e=>by rw [e] at lrf;omega
 have raP:ra ≠ P:=fun e=>by rw [e] at lra;omega
 have hrr:=hX.ne
 have lof:=hX.lo_of (q:=rf) (by omega)
 have loa:=hX.lo_of (q:=ra) (by omega)
 have e1:(rf == H.next)=false:=ne_beq (by omega)
 have e2:(rf == H.next + 1)=false:=ne_beq (by omega)
 have e3:(rf == H.next + 2)=false:=ne_beq (by omega)
 have e4:(H.next == rf)=false:=ne_beq (by omega)
 have e5:(rf == P)=false:=ne_beq rfP
 have e6:(P == rf)=false:=ne_beq (Ne.symm rfP)
 have e7:(P == H.next)=false:=ne_beq (by omega)
 have e8:(P == H.next + 1)=false:=ne_beq (by omega)
 have e9:(ra == H.next)=false:=ne_beq (by omega)
 have e10:(ra == H.next + 1)=false:=ne_beq (by omega)
 have hr:=pickG_range (n:=k) (m:=6) (by omega) (by omega)
 have hr0:=hr.1
 have hnm:=nm_at nmsF2 (n:=pickG k 6) (by show _ < 6;omega)
 have hix:=fun r=>ixSt r 6 hr.1 (by omega)
 have hbs:=fun H=>bs6 H [120] [110] [97] [122] [114,101,116,117,114,110] [95]
 change ∀ H,buildSliceA _ H _ _ _=some (_,H.alloc (.cells (nmsF2.map .str) 0 true)) at hbs
 obtain ⟨N,hN⟩:∃ N,f.params.length=N:=⟨_,rfl⟩
 have hNl:N < 2 ^ 30:=by
   have h1:=strsSz_len f.params
   simp only [Fu.sz] at fs
   omega
 have hnl:=nmx_len (l:=nmsF2) (by decide) (pickG k 6).toNat
 obtain ⟨H',a1,a2,a3,a4⟩:=hX.pushP (Hb:=(H.alloc (.cells (nmsF2.map .str) 0 true)).alloc (.cells [.str (nmsF2.getD (pickG k 6).toNat [])] 0 true)) (by simp only [Hp.next_alloc];omega) (fun q _ h1=>by rw [alloc_old (by simp only [Hp.next_alloc];omega),alloc_old h1]) (r:=H.next + 1) (s:=nmsF2.getD (pickG k 6).toNat []) (by rw [Hp.get_alloc,if_pos (by rfl)]) hN hNl
 simp only [Hp.next_alloc,Nat.add_assoc,Nat.reduceAdd] at a1 a2 a3 a4
 have fr:∀ q,q < H.next → pt q ≠ b → H'.get q=H.get q:=fun q h1 h2=>by
   rw [a3 q (by omega) (.inr h2),alloc_old (by simp only [Hp.next_alloc];omega),alloc_old h1]
 have gr:=fr rf ltF (by omega)
 rcases hi with rfl|rfl
 all_goals
   simp only [Nat.mul_zero,Nat.mul_one] at k8
   first|have gf:=hX.gf0|have gf:=hX.gf1
   rw [gf] at gr
   dsimp only [mpBody,scB,scL,scR,code12]
   repeat' (first
      | (apply Rx.nl ?_;clear hK K)|apply Ry.o ?_|apply Ry.on ?_|(apply Ry.call ?_;first|refine Rx.k (pick_en hG.pick k 6 (by decide) _) ?_)|(apply Ry.cd (fun hb hbp=>?_) (fun hb hbp=>?_) <;> try (cases hb;done))|apply Wp.seq ?_|(apply Wp.ops' fun K hK=>?_)|(apply Rx.dT 8 [(4,7),(4,11),(5,7),(5,11),(9,11),(10,11)] fun K hK=>?_)|(apply Rx.nq ?_;try intro _)|(apply Rx.nt ?_ ?_ <;> clear hK K)|apply WpT.step ?_|apply WpT.step0 rfl ?_|apply Wp.block ?_)
   · exact eK
   refine ⟨rfl,eE,eE,MutI.upd hX hPt ltP gp old (a4 _ rfl (fun q hq=>by rw [Hp.get_set,if_neg hq]) (by rw [Hp.get_set,if_pos rfl];rfl)) (by rw [if_neg (by omega)];exact hPt) ?_ ?_ (by omega) ?_ (by omega) fn gn⟩
   · simp only [Hp.next_set];omega
   · intro q h1 h2;rw [Hp.get_set,if_neg (fun e=>by rw [e] at h2;omega),fr q h1 (by omega)]
   · simp only [Fu.sz,strsSz_app,strsSz] at fs ⊢;omega
set_option maxRecDepth 100000 in
theorem mp3 {lG:List En} (hG:MutL lG) {i:Nat} {a h k:Int} {lo m P:Nat} {Hs H:Hp} {ra rf:Nat} {x y:Int} {f g:Fu} {pf lf bf:AV} {vf:List AV} {pg lg bg:AV} {vg:List AV} {E:Env} (hat:AtM i a h k lo m P Hs H ra rf x y f g pf lf bf vf pg lg bg vg E) (hh:h=3):Wp Try.prog (cfgN pls lG) 12 285 mpBody E H (TailM lo m P Hs):=by
 obtain ⟨⟨pt,b,b',hX,hPt⟩,hi,hm,loP,ltP,gp,old,fs,gs,fn,gn,hpi,k2,k6,k7,k8,k9,k27⟩:=hat
 have hkeep:(cfgN pls lG).keep 12=false:=rfl
 subst hh
 obtain ⟨v0,v1,v2,v3,v4,rfl⟩:=len5 hX.F.len
 obtain ⟨w0,w1,w2,w3,w4,rfl⟩:=len5 hX.G.len
 obtain ⟨z0,z1,z2,z3,z4⟩:=all5 hX.F.one
 have ltA:=hX.ltA
 have ltF:=hX.ltF
 have hlo:=hX.hlo
 have hbb:=hX.hb
 have lrf:=hX.lrf
 have lra:=hX.lra
 have rfP:rf ≠ P:=fun e=>by rw [e] at lrf;omega
 have raP:ra ≠ P:=fun e=>by rw [e] at lra;omega
 have hrr:=hX.ne
 have lof:=hX.lo_of (q:=rf) (by omega)
 have loa:=hX.lo_of (q:=ra) (by omega)
 have e1:(rf == H.next)=false:=ne_beq (by omega)
 have e2:(rf == H.next + 1)=false:=ne_beq (by omega)
 have e3:(rf == H.next + 2)=false:=ne_beq (by omega)
 have e4:(H.next == rf)=false:=ne_beq (by omega)
 have e5:(rf == P)=false:=ne_beq rfP
 have e6:(P == rf)=false:=ne_beq (Ne.symm rfP)
 have e7:(P == H.next)=false:=ne_beq (by omega)
 have e8:(P == H.next + 1)=false:=ne_beq (by omega)
 have e9:(ra == H.next)=false:=ne_beq (by omega)
 have e10:(ra == H.next + 1)=false:=ne_beq (by omega)
 have hr:=pickG_range (n:=k) (m:=5) (by omega) (by omega)
 have hr0:=hr.1
 have hnm:=nm_at nmsF3 (n:=pickG k 5) (by show _ < 5;omega)
 have hix:=fun r=>ixSt r 5 hr.1 (by omega)
 have hbs:=fun H=>bs5s H [105] [98] [113] [120,32,121] [119,104,105,108,101]
 change ∀ H,buildSliceA _ H _ _ _=some (_,H.alloc (.cells (nmsF3.map .str) 0 true)) at hbs
 obtain ⟨N,hN⟩:∃ N,f.locals.length=N:=⟨_,rfl⟩
 have hNl:N < 2 ^ 30:=by
   have h1:=strsSz_len f.locals
   simp only [Fu.sz] at fs
   omega
 have hnl:=nmx_len (l:=nmsF3) (by decide) (pickG k 5).toNat
 obtain ⟨H',a1,a2,a3,a4⟩:=hX.pushL (Hb:=(H.alloc (.cells (nmsF3.map .str) 0 true)).alloc (.cells [.str (nmsF3.getD (pickG k 5).toNat [])] 0 true)) (by simp only [Hp.next_alloc];omega) (fun q _ h1=>by rw [alloc_old (by simp only [Hp.next_alloc];omega),alloc_old h1]) (r:=H.next + 1) (s:=nmsF3.getD (pickG k 5).toNat []) (by rw [Hp.get_alloc,if_pos (by rfl)]) hN hNl
 simp only [Hp.next_alloc,Nat.add_assoc,Nat.reduceAdd] at a1 a2 a3 a4
 have fr:∀ q,q < H.next → pt q ≠ b + 1 → H'.get q=H.get q:=fun q h1 h2=>by
   rw [a3 q (by omega) (.inr h2),alloc_old (by simp only [Hp.next_alloc];omega),alloc_old h1]
 have gr:=fr rf ltF (by omega)
 rcases hi with rfl|rfl
 all_goals
   simp only [Nat.mul_zero,Nat.mul_one] at k8
   first|have gf:=hX.gf0|have gf:=hX.gf1
   rw [gf] at gr
   dsimp only [mpBody,scB,scL,scR,code12]
   repeat' (first
      | (apply Rx.nl ?_;clear hK K)|apply Ry.o ?_|apply Ry.on ?_|(apply Ry.call ?_;first|refine Rx.k (pick_en hG.pick k 5 (by decide) _) ?_)|(apply Ry.cd (fun hb hbp=>?_) (fun hb hbp=>?_) <;> try (cases hb;done))|apply Wp.seq ?_|(apply Wp.ops' fun K hK=>?_)|(apply Rx.dT 10 [(4,7),(4,11),(5,7),(5,11),(9,11),(10,11)] fun K hK=>?_)|(apply Rx.nq ?_;try intro _)|(apply Rx.nt ?_ ?_ <;> clear hK K)|apply WpT.step ?_|apply WpT.step0 rfl ?_|apply Wp.block ?_)
   · exact eK
   refine ⟨rfl,eE,eE,MutI.upd hX hPt ltP gp old (a4 _ rfl (fun q hq=>by rw [Hp.get_set,if_neg hq]) (by rw [Hp.get_set,if_pos rfl];rfl)) (by rw [if_neg (by omega)];exact hPt) ?_ ?_ (by omega) ?_ (by omega) fn gn⟩
   · simp only [Hp.next_set];omega
   · intro q h1 h2;rw [Hp.get_set,if_neg (fun e=>by rw [e] at h2;omega),fr q h1 (by omega)]
   · simp only [Fu.sz,strsSz_app,strsSz] at fs ⊢;omega
end Go.Proofs.Ytackdnelcpbfjaa
namespace Go.Proofs.Ytackdnelcpbfjaa
set_option maxRecDepth 20000
set_option maxRecDepth 20000
open Go Go.Ab
namespace tyMuQc
def tyF:=And.intro @tq2 (And.intro @tq3 (And.intro @tq5 (And.intro @tq9 (And.intro @tq22 (And.intro @tq23 (And.intro @tq25 (And.intro @tq35 (And.intro @tq36 (And.intro @tq37 (And.intro @tq39 (And.intro @tq41 (And.intro @tq44 (And.intro @tq46 (And.intro @tq84 (And.intro @cv3_5 (And.intro @bsU1M (And.intro @bsS1' (And.intro @kb3 (And.intro @bEn (And.intro @bsT17 (@bE1n)))))))))))))))))))))
end tyMuQc
open tyMuQc
set_option maxRecDepth 100000 in
theorem mp4 {lG : List En} (hG : MutL lG) {i : Nat} {a h k : Int} {lo m P : Nat} {Hs H : Hp} {ra rf : Nat} {x y : Int} {f g : Fu} {pf lf bf : AV} {vf : List AV} {pg lg bg : AV} {vg : List AV} {E : Env} (hat : AtM i a h k lo m P Hs H ra rf x y f g pf lf bf vf pg lg bg vg E) (hh : h = 4) : Wp Try.prog (cfgN pls lG) 12 285 mpBody E H (TailM lo m P Hs) := by
  obtain ⟨⟨pt,b,b',hX,hPt⟩,hi,hm,loP,ltP,gp,old,fs,gs,fn,gn,hpi,k2,k6,k7,k8,k9,k27⟩:=hat
  have hkeep:(cfgN pls lG).keep 12=false:=rfl
  subst hh
  obtain ⟨v0,v1,v2,v3,v4,rfl⟩:=len5 hX.F.len
  obtain ⟨w0,w1,w2,w3,w4,rfl⟩:=len5 hX.G.len
  obtain ⟨z0,z1,z2,z3,z4⟩:=all5 hX.F.one
  have ltA:=hX.ltA
  have ltF:=hX.ltF
  have hlo:=hX.hlo
  have hbb:=hX.hb
  have lrf:=hX.lrf
  have lra:=hX.lra
  have rfP:rf ≠ P:=fun e=>by rw [e] at lrf;omega
  have raP:ra ≠ P:=fun e=>by rw [e] at lra;omega
  have hrr:=hX.ne
  have lof:=hX.lo_of (q:=rf) (by omega)
  have loa:=hX.lo_of (q:=ra) (by omega)
  have e1:(rf == H.next)=false:=ne_beq (by omega)
  have e2:(rf == H.next + 1)=false:=ne_beq (by omega)
  have e3:(rf == H.next + 2)=false:=ne_beq (by omega)
  have e4:(H.next == rf)=false:=ne_beq (by omega)
  have e5:(rf == P)=false:=ne_beq rfP
  have e6:(P == rf)=false:=ne_beq (Ne.symm rfP)
  have e7:(P == H.next)=false:=ne_beq (by omega)
  have e8:(P == H.next + 1)=false:=ne_beq (by omega)
  have e9:(ra == H.next)=false:=ne_beq (by omega)
  have e10:(ra == H.next + 1)=false:=ne_beq (by omega)
  have hpr:=pickG_range (n:=k) (m:=12) (by omega) (by omega)
  obtain ⟨M,hM⟩:∃ M:Nat,pickG k 12=(M:Int):=⟨(pickG k 12).toNat,by omega⟩
  have hMl:M < 12:=by omega
  have kp:=fun H=>pick_en hG.pick k 12 (by decide) H
  rw [hM] at kp
  rcases hi with rfl|rfl
  all_goals
    simp only [Nat.mul_zero,Nat.mul_one] at k8
    first|have gf:=hX.gf0|have gf:=hX.gf1
    dsimp only [mpBody,scB,scL,scR,code12]
    repeat' (first
       | (apply Rx.nl ?_;clear hK K)|apply Ry.o ?_|(apply Ry.cd (fun hb hbp=>?_) (fun hb hbp=>?_) <;> try (cases hb;done))|apply Wp.seq ?_|(apply Wp.ops' fun K hK=>?_)|(apply Rx.dT 15 [(4,12),(7,12),(8,12),(9,12),(11,12)] fun K hK=>?_)|(apply Rx.nq ?_;try intro _)|(apply Rx.nt ?_ ?_ <;> clear hK K)|apply WpT.step ?_|apply WpT.step0 rfl ?_|apply Wp.block ?_|apply Rx.sk ?_|apply Rx.xt ?_)
    refine Wp.forI [2,6,7,8,9] [] 10 M (fun j E H3=>∃ pt' lf',ProgX _ pt' lo b b' 14 H3 ra rf x y { f with locals:=f.locals ++ vLs 118 j } g pf lf' bf [v0,v1,v2,v3,v4] pg lg bg [w0,w1,w2,w3,w4] ∧ pt' P=0 ∧ (∀ q,q < H.next → pt q=0 → pt' q=0) ∧ (∀ q,q < H.next → pt q=0 → H3.get q=H.get q)) eE ⟨pt,lf,by rw [show f.locals ++ vLs 118 0=f.locals from List.append_nil _];exact hX,hPt,fun _ _ h=>h,fun _ _ _=>rfl⟩ ?_
    rintro j E H3 hj hcE hrH hnH hsI ⟨pt',lf',hX3,hP3,hl3,hf3⟩
    (try simp only [forall_cons,forall_nil,and_true,sB,sO,Nat.reduceBEq,Nat.reduceAdd,Nat.reduceLeDiff,tyF, *] at hcE)
    (try simp only [forall_cons,forall_nil,and_true,sB,sO,Nat.reduceBEq,Nat.reduceAdd,Nat.reduceLeDiff,tyF, *] at hrH)
    (try simp only [Hp.next_alloc,Hp.next_set,H0_next,Nat.zero_add,Nat.reduceAdd] at hnH)
    have hnx:H.next ≤ H3.next:=by simpa using hnH
    have f1:(rf == H3.next)=false:=ne_beq (by omega)
    have f2:(rf == H3.next + 1)=false:=ne_beq (by omega)
    have f3:(rf == H3.next + 2)=false:=ne_beq (by omega)
    first|have gf3:=hX3.gf0|have gf3:=hX3.gf1
    repeat' (first
       | (apply Rx.nl ?_;clear hK K)|apply Ry.o ?_|(apply Ry.call ?_;first|refine Rx.k (kp _) ?_)|(apply Ry.cd (fun hb hbp=>?_) (fun hb hbp=>?_) <;> try (cases hb;done))|apply Wp.seq ?_|(apply Wp.ops' fun K hK=>?_)|(apply Rx.dT 15 [(4,12),(7,12),(8,12),(9,12),(11,12)] fun K hK=>?_)|(apply Rx.nq ?_;try intro _)|(apply Rx.nt ?_ ?_ <;> clear hK K)|apply WpT.step ?_|apply WpT.step0 rfl ?_|apply Wp.block ?_|apply Rx.sk ?_|apply Rx.xt ?_)
    · have hlt : j < M := by omega
      have lrf3:=hX3.lrf
      have hw97:IntKind.wrap .i64 (97 + (j:Int))=97 + (j:Int):=i64_id (by omega) (by omega)
      have hcv:=fun H=>cv3_5 H .i64 (97 + (j:Int))
      generalize hmm:IntKind.wrap .u8 (97 + (j:Int))=mm at hcv
      have hmc:UInt8.ofNat mm.toNat=UInt8.ofNat (97 + j):=by rw [← hmm];exact u8_atM (by omega)
      have hg3:(H3.alloc (.cells [.int .u8 mm] 0 true)).get H3.next=some (.cells [.int .u8 mm] 0 true):=by rw [Hp.get_alloc,if_pos rfl]
      have hcu:=cvUM hg3
      rw [hmc] at hcu
      have hcat:∀ D t,binA Try.prog D .add t (.str [118]) (.str [UInt8.ofNat (97 + j)])=some (.str [118,UInt8.ofNat (97 + j)]):=fun D t=>bin_sadd (by simp [maxRoom])
      obtain ⟨N,hN⟩:∃ N,(f.locals ++ vLs 118 j).length=N:=⟨_,rfl⟩
      have hNl:N < 2 ^ 30:=by
        have h1:=strsSz_len f.locals
        rw [List.length_append,vLs_len] at hN
        simp only [Fu.sz] at fs
        omega
      obtain ⟨H',a1,a2,a3,a4⟩:=hX3.pushL (Hb:=(H3.alloc (.cells [.int .u8 mm] 0 true)).alloc (.cells [.str [118,UInt8.ofNat (97 + j)]] 0 true)) (by simp only [Hp.next_alloc];omega) (fun q _ h1=>by rw [alloc_old (by simp only [Hp.next_alloc];omega),alloc_old h1]) (r:=H3.next + 1) (s:=[118,UInt8.ofNat (97 + j)]) (by rw [Hp.get_alloc,if_pos (by rfl)]) hN hNl
      simp only [Hp.next_alloc,Nat.add_assoc,Nat.reduceAdd] at a1 a2 a3 a4
      have fr:∀ q,q < H3.next → pt' q ≠ b + 1 → H'.get q=H3.get q:=fun q h1 h2=>by
        rw [a3 q (by omega) (.inr h2),alloc_old (by simp only [Hp.next_alloc];omega),alloc_old h1]
      have gr:=(fr rf (by omega) (by omega)).trans gf3
      have n1:H3.next ≤ H'.next:=by omega
      have gu:H'.get H3.next=some (.cells [.int .u8 mm] 0 true):=by rw [a3 H3.next (by omega) (.inl (Nat.le_refl _)),alloc_old (by simp only [Hp.next_alloc];omega)];exact hg3
      have gs2:H'.get (H3.next + 1)=some (.cells [.str [118,UInt8.ofNat (97 + j)]] 0 true):=by rw [a3 (H3.next + 1) (by omega) (.inl (by omega)),Hp.get_alloc,if_pos (by rfl)]
      have hcu2:=cvUM gu
      rw [hmc] at hcu2
      have hcu3:=cvUM (H:=(H3.alloc (.cells [.int .u8 mm] 0 true)).alloc (.cells [.str [118,UInt8.ofNat (97 + j)]] 0 true)) (r:=H3.next) (by rw [alloc_old (by simp only [Hp.next_alloc];omega)];exact hg3)
      rw [hmc] at hcu3
      repeat' (first
         | (apply Rx.nl ?_;clear hK K)|apply Rx.o ?_|apply Rx.on ?_|apply Wp.seq ?_|(apply Wp.ops' fun K hK=>?_)|(apply Rx.dT 15 [(4,12),(7,12),(8,12),(9,12),(11,12)] fun K hK=>?_)|(apply Rx.nq ?_;try intro _)|(apply Rx.nt ?_ ?_ <;> clear hK K)|apply WpT.step ?_|apply WpT.step0 rfl ?_|apply Wp.block ?_|apply Rx.sk ?_|apply Rx.xt ?_)
      · exact eK
      refine ⟨by omega,eL,eL,eN,(by simp only [sB,Nat.reduceBEq, *];exact i64_succ (n:=M) (by omega) (by omega)),?_⟩
      refine ⟨_,_,by rw [vLs_succ,← List.append_assoc];exact a4 _ rfl (fun q hq=>by rw [Hp.get_set,if_neg hq]) (by rw [Hp.get_set,if_pos rfl];rfl),?_,?_,?_⟩
      · show (if _ then _ else _)=0;rw [if_neg (by omega)];exact hP3
      · intro q h1 h2;show (if _ then _ else _)=0;rw [if_neg (by omega)];exact hl3 q h1 h2
      · intro q h1 h2
        have:=hl3 q h1 h2
        rw [Hp.get_set,if_neg (fun e=>by rw [e] at this;omega),fr q (by omega) (by omega)];exact hf3 q h1 h2
    · have hje : j = M := by omega
      subst hje
      refine ⟨rfl,eE,eE,MutI.upd hX hPt ltP gp old hX3 hP3 hnx hf3 (by omega) ?_ (by omega) fn gn⟩
      have:=vLs_sz 118 j
      simp only [Fu.sz,strsSz_app] at fs ⊢;omega
set_option maxRecDepth 100000 in
theorem mp10 {lG : List En} (hG : MutL lG) {i : Nat} {a h k : Int} {lo m P : Nat} {Hs H : Hp} {ra rf : Nat} {x y : Int} {f g : Fu} {pf lf bf : AV} {vf : List AV} {pg lg bg : AV} {vg : List AV} {E : Env} (hat : AtM i a h k lo m P Hs H ra rf x y f g pf lf bf vf pg lg bg vg E) (hh : h = 10) : Wp Try.prog (cfgN pls lG) 12 285 mpBody E H (TailM lo m P Hs) := by
  obtain ⟨⟨pt,b,b',hX,hPt⟩,hi,hm,loP,ltP,gp,old,fs,gs,fn,gn,hpi,k2,k6,k7,k8,k9,k27⟩:=hat
  have hkeep:(cfgN pls lG).keep 12=false:=rfl
  subst hh
  obtain ⟨v0,v1,v2,v3,v4,rfl⟩:=len5 hX.F.len
  obtain ⟨w0,w1,w2,w3,w4,rfl⟩:=len5 hX.G.len
  obtain ⟨z0,z1,z2,z3,z4⟩:=all5 hX.F.one
  have ltA:=hX.ltA
  have ltF:=hX.ltF
  have hlo:=hX.hlo
  have hbb:=hX.hb
  have lrf:=hX.lrf
  have lra:=hX.lra
  have rfP:rf ≠ P:=fun e=>by rw [e] at lrf;omega
  have raP:ra ≠ P:=fun e=>by rw [e] at lra;omega
  have hrr:=hX.ne
  have lof:=hX.lo_of (q:=rf) (by omega)
  have loa:=hX.lo_of (q:=ra) (by omega)
  have e1:(rf == H.next)=false:=ne_beq (by omega)
  have e2:(rf == H.next + 1)=false:=ne_beq (by omega)
  have e3:(rf == H.next + 2)=false:=ne_beq (by omega)
  have e4:(H.next == rf)=false:=ne_beq (by omega)
  have e5:(rf == P)=false:=ne_beq rfP
  have e6:(P == rf)=false:=ne_beq (Ne.symm rfP)
  have e7:(P == H.next)=false:=ne_beq (by omega)
  have e8:(P == H.next + 1)=false:=ne_beq (by omega)
  have e9:(ra == H.next)=false:=ne_beq (by omega)
  have e10:(ra == H.next + 1)=false:=ne_beq (by omega)
  have hpr:=pickG_range (n:=k) (m:=24) (by omega) (by omega)
  obtain ⟨M,hM⟩:∃ M:Nat,pickG k 24=(M:Int):=⟨(pickG k 24).toNat,by omega⟩
  have hMl:M < 24:=by omega
  have kp:=fun H=>pick_en hG.pick k 24 (by decide) H
  rw [hM] at kp
  rcases hi with rfl|rfl
  all_goals
    simp only [Nat.mul_zero,Nat.mul_one] at k8
    first|have gf:=hX.gf0|have gf:=hX.gf1
    dsimp only [mpBody,scB,scL,scR,code12]
    repeat' (first
       | (apply Rx.nl ?_;clear hK K)|apply Ry.o ?_|apply Ry.on ?_|(apply Ry.cd (fun hb hbp=>?_) (fun hb hbp=>?_) <;> try (cases hb;done))|apply Wp.seq ?_|(apply Wp.ops' fun K hK=>?_)|(apply Rx.nq ?_;try intro _)|apply WpT.step ?_|apply WpT.step0 rfl ?_|apply Wp.block ?_|apply Rx.sk ?_|apply Rx.xt ?_)
    refine Wp.forI [2,6,7,8,9] [] 13 M (fun j E H3=>∃ pt' bf',ProgX _ pt' lo b b' 14 H3 ra rf x y { f with body:=f.body ++ whls j } g pf lf bf' [v0,v1,v2,v3,v4] pg lg bg [w0,w1,w2,w3,w4] ∧ pt' P=0 ∧ (∀ q,q < H.next → pt q=0 → pt' q=0) ∧ (∀ q,q < H.next → pt q=0 → H3.get q=H.get q)) eE ⟨pt,bf,by rw [show f.body ++ whls 0=f.body from List.append_nil _];exact hX,hPt,fun _ _ h=>h,fun _ _ _=>rfl⟩ ?_
    rintro j E H3 hj hcE hrH hnH hsI ⟨pt',bf',hX3,hP3,hl3,hf3⟩
    (try simp only [forall_cons,forall_nil,and_true,sB,sO,Nat.reduceBEq,Nat.reduceAdd,Nat.reduceLeDiff,tyF, *] at hcE)
    (try simp only [forall_cons,forall_nil,and_true,sB,sO,Nat.reduceBEq,Nat.reduceAdd,Nat.reduceLeDiff,tyF, *] at hrH)
    (try simp only [Hp.next_alloc,Hp.next_set,H0_next,Nat.zero_add,Nat.reduceAdd] at hnH)
    have hnx:H.next ≤ H3.next:=by simpa using hnH
    have f1:(rf == H3.next)=false:=ne_beq (by omega)
    have f2:(rf == H3.next + 1)=false:=ne_beq (by omega)
    have f3:(rf == H3.next + 2)=false:=ne_beq (by omega)
    first|have gf3:=hX3.gf0|have gf3:=hX3.gf1
    obtain ⟨o1,o2⟩:=hX3.F.bo.one
    repeat' (first
       | (apply Rx.nl ?_;clear hK K)|apply Ry.o ?_|apply Ry.on ?_|(apply Ry.call ?_;first|refine Rx.k (kp _) ?_)|(apply Ry.cd (fun hb hbp=>?_) (fun hb hbp=>?_) <;> try (cases hb;done))|apply Wp.seq ?_|(apply Wp.ops' fun K hK=>?_)|(apply Rx.nq ?_;try intro _)|apply WpT.step ?_|apply WpT.step0 rfl ?_|apply Wp.block ?_|apply Rx.sk ?_|apply Rx.xt ?_)
    · have hlt : j < M := by omega
      have lrf3:=hX3.lrf
      obtain ⟨N,hN⟩:∃ N,(f.body ++ whls j).length=N:=⟨_,rfl⟩
      have hNl:N < 2 ^ 30:=by
        have h1:=stmtsSz_len f.body
        rw [List.length_append,whls_len] at hN
        simp only [Fu.sz] at fs
        omega
      have hlen:∀ H,lenAt Try.prog H 36 bf'=some (.int .i64 N):=fun H=>by have:=hX3.F.bo.len (P:=Try.prog) (H':=H) Try.underlying36;rw [List.length_map,hN] at this;exact this
      obtain ⟨H',flat,imm',a1,a2,a3,a4,a5,a6,a7,a8,a10⟩:=hX3.pushC (Hb:=H3.alloc (.cells [.int .i64 0,.str [],.str [],.int .i64 0,.int .i64 0,.int .i64 0,.str [],.int .i64 0,.nilS,.int .i64 0,.int .i64 0,.str [],.int .i64 0,.nilS,.nilS,.nilS,.nilS] 0 true)) (by simp only [Hp.next_alloc];omega) (fun q _ h1=>alloc_old h1) (r:=H3.next) (row:=[.int .i64 0,.str [],.str [],.int .i64 0,.int .i64 0,.int .i64 0,.str [],.int .i64 0,.nilS,.int .i64 0,.int .i64 0,.str [],.int .i64 0,.nilS,.nilS,.nilS,.nilS]) (by rw [Hp.get_alloc,if_pos rfl]) rfl rfl hN hNl
      simp only [Hp.next_alloc] at a1 a2 a7 a8 a10
      have fr:∀ q,q < H3.next → pt' q ≠ b + 2 → H'.get q=H3.get q:=fun q h1 h2=>by
        rw [a8 q (by omega) (.inr h2),alloc_old h1]
      have gr:=(fr rf (by omega) (by omega)).trans gf3
      have n1:H3.next ≤ H'.next:=by omega
      have hn1:N < N + 1:=Nat.lt_succ_self _
      have g1:(H3.next + 1 == rf)=false:=ne_beq (by omega)
      have gz:=@aZ17
      (apply Rx.dS 36 10 13 [0,1,2,3,4,5,6,7,8,9,11,12,13,10] [(3,8),(6,8),(7,8)] [(3,8),(6,8),(7,8)] ?_ ?_ ?_;rotate_left 2)
      · repeat' (first
           | (apply Rx.nl ?_;clear hK K)|apply Ry.o ?_|apply Ry.on ?_|(apply Ry.cd (fun hb hbp=>?_) (fun hb hbp=>?_) <;> try (cases hb;done))|apply Wp.seq ?_|(apply Wp.ops' fun K hK=>?_)|(apply Rx.nq ?_;try intro _)|apply WpT.step ?_|apply WpT.step0 rfl ?_|apply Wp.block ?_|apply Rx.sk ?_|apply Rx.xt ?_)
        try any_goals intro _
        repeat' (first
           | (apply Rx.nl ?_;clear hK K)|apply Ry.o ?_|apply Ry.on ?_|(apply Ry.cd (fun hb hbp=>?_) (fun hb hbp=>?_) <;> try (cases hb;done))|apply Wp.seq ?_|(apply Wp.ops' fun K hK=>?_)|(apply Rx.nq ?_;try intro _)|apply WpT.step ?_|apply WpT.step0 rfl ?_|apply Wp.block ?_|apply Rx.sk ?_|apply Rx.xt ?_)
        try any_goals intro _
        any_goals refine WpT.nil ⟨?_,rfl,rfl⟩
        all_goals exact eK
      · repeat' (first
           | (apply Rx.nl ?_;clear hK K)|apply Ry.o ?_|apply Ry.on ?_|(apply Ry.cd (fun hb hbp=>?_) (fun hb hbp=>?_) <;> try (cases hb;done))|apply Wp.seq ?_|(apply Wp.ops' fun K hK=>?_)|(apply Rx.nq ?_;try intro _)|apply WpT.step ?_|apply WpT.step0 rfl ?_|apply Wp.block ?_|apply Rx.sk ?_|apply Rx.xt ?_)
        try any_goals intro _
        repeat' (first
           | (apply Rx.nl ?_;clear hK K)|apply Ry.o ?_|apply Ry.on ?_|(apply Ry.cd (fun hb hbp=>?_) (fun hb hbp=>?_) <;> try (cases hb;done))|apply Wp.seq ?_|(apply Wp.ops' fun K hK=>?_)|(apply Rx.nq ?_;try intro _)|apply WpT.step ?_|apply WpT.step0 rfl ?_|apply Wp.block ?_|apply Rx.sk ?_|apply Rx.xt ?_)
        try any_goals intro _
        any_goals refine WpT.nil ⟨?_,rfl,Hp.set_comm _ (fun e=>by omega) _ _⟩
        all_goals exact eK
      generalize hH5:Hp.set (Hp.set H' (H3.next + 1) (.cells (flat ++ [.int .i64 4,.str [],.str [],.int .i64 0,.int .i64 0,.int .i64 0,.str [],.int .i64 0,.nilS,.int .i64 1,.int .i64 0,.str [],.int .i64 0,.nilS,.nilS,.nilS,.nilS]) imm' true)) rf _=H5
      have X5:=a10 H5 [.int .i64 4,.str [],.str [],.int .i64 0,.int .i64 0,.int .i64 0,.str [],.int .i64 0,.nilS,.int .i64 1,.int .i64 0,.str [],.int .i64 0,.nilS,.nilS,.nilS,.nilS] (whlS) (by rw [← hH5];rfl) (fun q h1 h2=>by rw [← hH5,Hp.get_set,if_neg h1,Hp.get_set,if_neg (by omega)]) (by rw [← hH5,Hp.get_set,if_neg (fun e=>by omega),Hp.get_set,if_pos rfl]) rfl (st_node (n:=13) 4 [] [] 0 zC_w (ex_leaf 1 0 0 []) .nilS .nilS .nilS) (by rw [← hH5,Hp.get_set,if_pos rfl];rfl)
      have f5:∀ q,q < H3.next → pt' q=0 → H5.get q=H3.get q:=fun q h1 h2=>by rw [← hH5,Hp.get_set,if_neg (fun e=>by rw [e] at h2;omega),Hp.get_set,if_neg (by omega),fr q h1 (by omega)]
      have n5:H3.next ≤ H5.next:=by rw [← hH5];simp only [Hp.next_set];omega
      clear hH5 a1 a2 a10 a8 gr
      dsimp only [thenQ,blockQ,setO]
      repeat' (first
         | (apply Rx.nl ?_;clear hK K)|apply Rx.o ?_|apply Wp.seq ?_|(apply Wp.ops' fun K hK=>?_)|(apply Rx.nq ?_;try intro _)|apply WpT.step ?_|apply WpT.step0 rfl ?_|apply Wp.block ?_|apply Rx.sk ?_|apply Rx.xt ?_)
      refine ⟨by omega,eL,eL,eN,(by simp only [sB,Nat.reduceBEq, *];exact i64_succ (n:=M) (by omega) (by omega)),?_⟩
      refine ⟨_,_,by rw [whls_succ,← List.append_assoc];exact X5,?_,?_,?_⟩
      · show (if _ then _ else _)=0;rw [if_neg (by omega)];exact hP3
      · intro q h1 h2;show (if _ then _ else _)=0;rw [if_neg (by omega)];exact hl3 q h1 h2
      · intro q h1 h2
        rw [f5 q (by omega) (hl3 q h1 h2)];exact hf3 q h1 h2
    · have hje : j = M := by omega
      subst hje
      refine ⟨rfl,eE,eE,MutI.upd hX hPt ltP gp old hX3 hP3 hnx hf3 (by omega) ?_ (by omega) fn gn⟩
      have:=whls_sz j
      simp only [Fu.sz,stmtsSz_app] at fs ⊢;omega
set_option maxRecDepth 100000 in
theorem mp11 {lG : List En} (hG : MutL lG) {i : Nat} {a h k : Int} {lo m P : Nat} {Hs H : Hp} {ra rf : Nat} {x y : Int} {f g : Fu} {pf lf bf : AV} {vf : List AV} {pg lg bg : AV} {vg : List AV} {E : Env} (hat : AtM i a h k lo m P Hs H ra rf x y f g pf lf bf vf pg lg bg vg E) (hh : h = 11) : Wp Try.prog (cfgN pls lG) 12 285 mpBody E H (TailM lo m P Hs) := by
  obtain ⟨⟨pt,b,b',hX,hPt⟩,hi,hm,loP,ltP,gp,old,fs,gs,fn,gn,hpi,k2,k6,k7,k8,k9,k27⟩:=hat
  have hkeep:(cfgN pls lG).keep 12=false:=rfl
  subst hh
  obtain ⟨v0,v1,v2,v3,v4,rfl⟩:=len5 hX.F.len
  obtain ⟨w0,w1,w2,w3,w4,rfl⟩:=len5 hX.G.len
  obtain ⟨z0,z1,z2,z3,z4⟩:=all5 hX.F.one
  have ltA:=hX.ltA
  have ltF:=hX.ltF
  have hlo:=hX.hlo
  have hbb:=hX.hb
  have lrf:=hX.lrf
  have lra:=hX.lra
  have rfP:rf ≠ P:=fun e=>by rw [e] at lrf;omega
  have raP:ra ≠ P:=fun e=>by rw [e] at lra;omega
  have hrr:=hX.ne
  have lof:=hX.lo_of (q:=rf) (by omega)
  have loa:=hX.lo_of (q:=ra) (by omega)
  have e1:(rf == H.next)=false:=ne_beq (by omega)
  have e2:(rf == H.next + 1)=false:=ne_beq (by omega)
  have e3:(rf == H.next + 2)=false:=ne_beq (by omega)
  have e4:(H.next == rf)=false:=ne_beq (by omega)
  have e5:(rf == P)=false:=ne_beq rfP
  have e6:(P == rf)=false:=ne_beq (Ne.symm rfP)
  have e7:(P == H.next)=false:=ne_beq (by omega)
  have e8:(P == H.next + 1)=false:=ne_beq (by omega)
  have e9:(ra == H.next)=false:=ne_beq (by omega)
  have e10:(ra == H.next + 1)=false:=ne_beq (by omega)
  have hpr:=pickG_range (n:=k) (m:=260) (by omega) (by omega)
  obtain ⟨M,hM⟩:∃ M:Nat,pickG k 260=(M:Int):=⟨(pickG k 260).toNat,by omega⟩
  have hMl:M < 260:=by omega
  have kp:=fun H=>pick_en hG.pick k 260 (by decide) H
  rw [hM] at kp
  rcases hi with rfl|rfl
  all_goals
    simp only [Nat.mul_zero,Nat.mul_one] at k8
    first|have gf:=hX.gf0|have gf:=hX.gf1
    dsimp only [mpBody,scB,scL,scR,code12]
    repeat' (first
       | (apply Rx.nl ?_;clear hK K)|apply Ry.o ?_|apply Ry.on ?_|(apply Ry.cd (fun hb hbp=>?_) (fun hb hbp=>?_) <;> try (cases hb;done))|apply Wp.seq ?_|(apply Wp.ops' fun K hK=>?_)|(apply Rx.nq ?_;try intro _)|apply WpT.step ?_|apply WpT.step0 rfl ?_|apply Wp.block ?_|apply Rx.sk ?_|apply Rx.xt ?_)
    refine Wp.forI [2,6,7,8,9] [] 14 M (fun j E H3=>∃ pt' bf',ProgX _ pt' lo b b' 14 H3 ra rf x y { f with body:=f.body ++ outs j } g pf lf bf' [v0,v1,v2,v3,v4] pg lg bg [w0,w1,w2,w3,w4] ∧ pt' P=0 ∧ (∀ q,q < H.next → pt q=0 → pt' q=0) ∧ (∀ q,q < H.next → pt q=0 → H3.get q=H.get q)) eE ⟨pt,bf,by rw [show f.body ++ outs 0=f.body from List.append_nil _];exact hX,hPt,fun _ _ h=>h,fun _ _ _=>rfl⟩ ?_
    rintro j E H3 hj hcE hrH hnH hsI ⟨pt',bf',hX3,hP3,hl3,hf3⟩
    (try simp only [forall_cons,forall_nil,and_true,sB,sO,Nat.reduceBEq,Nat.reduceAdd,Nat.reduceLeDiff,tyF, *] at hcE)
    (try simp only [forall_cons,forall_nil,and_true,sB,sO,Nat.reduceBEq,Nat.reduceAdd,Nat.reduceLeDiff,tyF, *] at hrH)
    (try simp only [Hp.next_alloc,Hp.next_set,H0_next,Nat.zero_add,Nat.reduceAdd] at hnH)
    have hnx:H.next ≤ H3.next:=by simpa using hnH
    have f1:(rf == H3.next)=false:=ne_beq (by omega)
    have f2:(rf == H3.next + 1)=false:=ne_beq (by omega)
    have f3:(rf == H3.next + 2)=false:=ne_beq (by omega)
    first|have gf3:=hX3.gf0|have gf3:=hX3.gf1
    obtain ⟨o1,o2⟩:=hX3.F.bo.one
    repeat' (first
       | (apply Rx.nl ?_;clear hK K)|apply Ry.o ?_|apply Ry.on ?_|(apply Ry.call ?_;first|refine Rx.k (kp _) ?_)|(apply Ry.cd (fun hb hbp=>?_) (fun hb hbp=>?_) <;> try (cases hb;done))|apply Wp.seq ?_|(apply Wp.ops' fun K hK=>?_)|(apply Rx.nq ?_;try intro _)|apply WpT.step ?_|apply WpT.step0 rfl ?_|apply Wp.block ?_|apply Rx.sk ?_|apply Rx.xt ?_)
    · have hlt : j < M := by omega
      have lrf3:=hX3.lrf
      obtain ⟨N,hN⟩:∃ N,(f.body ++ outs j).length=N:=⟨_,rfl⟩
      have hNl:N < 2 ^ 30:=by
        have h1:=stmtsSz_len f.body
        rw [List.length_append,outs_len] at hN
        simp only [Fu.sz] at fs
        omega
      have hlen:∀ H,lenAt Try.prog H 36 bf'=some (.int .i64 N):=fun H=>by have:=hX3.F.bo.len (P:=Try.prog) (H':=H) Try.underlying36;rw [List.length_map,hN] at this;exact this
      obtain ⟨H',flat,imm',a1,a2,a3,a4,a5,a6,a7,a8,a10⟩:=hX3.pushC (Hb:=H3.alloc (.cells [.int .i64 0,.str [],.str [],.int .i64 0,.int .i64 0,.int .i64 0,.str [],.int .i64 0,.nilS,.int .i64 0,.int .i64 0,.str [],.int .i64 0,.nilS,.nilS,.nilS,.nilS] 0 true)) (by simp only [Hp.next_alloc];omega) (fun q _ h1=>alloc_old h1) (r:=H3.next) (row:=[.int .i64 0,.str [],.str [],.int .i64 0,.int .i64 0,.int .i64 0,.str [],.int .i64 0,.nilS,.int .i64 0,.int .i64 0,.str [],.int .i64 0,.nilS,.nilS,.nilS,.nilS]) (by rw [Hp.get_alloc,if_pos rfl]) rfl rfl hN hNl
      simp only [Hp.next_alloc] at a1 a2 a7 a8 a10
      have fr:∀ q,q < H3.next → pt' q ≠ b + 2 → H'.get q=H3.get q:=fun q h1 h2=>by
        rw [a8 q (by omega) (.inr h2),alloc_old h1]
      have gr:=(fr rf (by omega) (by omega)).trans gf3
      have n1:H3.next ≤ H'.next:=by omega
      have hn1:N < N + 1:=Nat.lt_succ_self _
      have g1:(H3.next + 1 == rf)=false:=ne_beq (by omega)
      have gz:=@aZ17
      (apply Rx.dS 41 11 14 [0,1,2,3,4,5,6,7,8,9,10,12,13,14,11] [(3,9),(7,9),(8,9)] [(3,9),(7,9),(8,9)] ?_ ?_ ?_;rotate_left 2)
      · repeat' (first
           | (apply Rx.nl ?_;clear hK K)|apply Ry.o ?_|apply Ry.on ?_|(apply Ry.cd (fun hb hbp=>?_) (fun hb hbp=>?_) <;> try (cases hb;done))|apply Wp.seq ?_|(apply Wp.ops' fun K hK=>?_)|(apply Rx.nq ?_;try intro _)|apply WpT.step ?_|apply WpT.step0 rfl ?_|apply Wp.block ?_|apply Rx.sk ?_|apply Rx.xt ?_)
        try any_goals intro _
        repeat' (first
           | (apply Rx.nl ?_;clear hK K)|apply Ry.o ?_|apply Ry.on ?_|(apply Ry.cd (fun hb hbp=>?_) (fun hb hbp=>?_) <;> try (cases hb;done))|apply Wp.seq ?_|(apply Wp.ops' fun K hK=>?_)|(apply Rx.nq ?_;try intro _)|apply WpT.step ?_|apply WpT.step0 rfl ?_|apply Wp.block ?_|apply Rx.sk ?_|apply Rx.xt ?_)
        try any_goals intro _
        any_goals refine WpT.nil ⟨?_,rfl,rfl⟩
        all_goals exact eK
      · repeat' (first
           | (apply Rx.nl ?_;clear hK K)|apply Ry.o ?_|apply Ry.on ?_|(apply Ry.cd (fun hb hbp=>?_) (fun hb hbp=>?_) <;> try (cases hb;done))|apply Wp.seq ?_|(apply Wp.ops' fun K hK=>?_)|(apply Rx.nq ?_;try intro _)|apply WpT.step ?_|apply WpT.step0 rfl ?_|apply Wp.block ?_|apply Rx.sk ?_|apply Rx.xt ?_)
        try any_goals intro _
        repeat' (first
           | (apply Rx.nl ?_;clear hK K)|apply Ry.o ?_|apply Ry.on ?_|(apply Ry.cd (fun hb hbp=>?_) (fun hb hbp=>?_) <;> try (cases hb;done))|apply Wp.seq ?_|(apply Wp.ops' fun K hK=>?_)|(apply Rx.nq ?_;try intro _)|apply WpT.step ?_|apply WpT.step0 rfl ?_|apply Wp.block ?_|apply Rx.sk ?_|apply Rx.xt ?_)
        try any_goals intro _
        any_goals refine WpT.nil ⟨?_,rfl,Hp.set_comm _ (fun e=>by omega) _ _⟩
        all_goals exact eK
      generalize hH5:Hp.set (Hp.set H' (H3.next + 1) (.cells (flat ++ [.int .i64 5,.str [],.str [],.int .i64 0,.int .i64 0,.int .i64 0,.str [],.int .i64 0,.nilS,.int .i64 1,.int .i64 j,.str [],.int .i64 0,.nilS,.nilS,.nilS,.nilS]) imm' true)) rf _=H5
      have X5:=a10 H5 [.int .i64 5,.str [],.str [],.int .i64 0,.int .i64 0,.int .i64 0,.str [],.int .i64 0,.nilS,.int .i64 1,.int .i64 j,.str [],.int .i64 0,.nilS,.nilS,.nilS,.nilS] (outS j) (by rw [← hH5];rfl) (fun q h1 h2=>by rw [← hH5,Hp.get_set,if_neg h1,Hp.get_set,if_neg (by omega)]) (by rw [← hH5,Hp.get_set,if_neg (fun e=>by omega),Hp.get_set,if_pos rfl]) rfl (st_node (n:=13) 5 [] [] 0 zC_w (ex_leaf 1 j 0 []) .nilS .nilS .nilS) (by rw [← hH5,Hp.get_set,if_pos rfl];rfl)
      have f5:∀ q,q < H3.next → pt' q=0 → H5.get q=H3.get q:=fun q h1 h2=>by rw [← hH5,Hp.get_set,if_neg (fun e=>by rw [e] at h2;omega),Hp.get_set,if_neg (by omega),fr q h1 (by omega)]
      have n5:H3.next ≤ H5.next:=by rw [← hH5];simp only [Hp.next_set];omega
      clear hH5 a1 a2 a10 a8 gr
      dsimp only [thenQ,blockQ,setO]
      repeat' (first
         | (apply Rx.nl ?_;clear hK K)|apply Rx.o ?_|apply Wp.seq ?_|(apply Wp.ops' fun K hK=>?_)|(apply Rx.nq ?_;try intro _)|apply WpT.step ?_|apply WpT.step0 rfl ?_|apply Wp.block ?_|apply Rx.sk ?_|apply Rx.xt ?_)
      refine ⟨by omega,eL,eL,eN,(by simp only [sB,Nat.reduceBEq, *];exact i64_succ (n:=M) (by omega) (by omega)),?_⟩
      refine ⟨_,_,by rw [outs_succ,← List.append_assoc];exact X5,?_,?_,?_⟩
      · show (if _ then _ else _)=0;rw [if_neg (by omega)];exact hP3
      · intro q h1 h2;show (if _ then _ else _)=0;rw [if_neg (by omega)];exact hl3 q h1 h2
      · intro q h1 h2
        rw [f5 q (by omega) (hl3 q h1 h2)];exact hf3 q h1 h2
    · have hje : j = M := by omega
      subst hje
      refine ⟨rfl,eE,eE,MutI.upd hX hPt ltP gp old hX3 hP3 hnx hf3 (by omega) ?_ (by omega) fn gn⟩
      have:=outs_sz j
      simp only [Fu.sz,stmtsSz_app] at fs ⊢;omega
end Go.Proofs.Ytackdnelcpbfjaa
namespace Go.Proofs.Ytackdnelcpbfjaa
set_option maxRecDepth 20000
set_option maxRecDepth 20000
open Go Go.Ab
namespace tyMuQb
def tyF:=And.intro @tq2 (And.intro @tq3 (And.intro @tq5 (And.intro @tq9 (And.intro @tq22 (And.intro @tq23 (And.intro @tq25 (And.intro @tq35 (And.intro @tq36 (And.intro @tq37 (And.intro @tq39 (And.intro @tq41 (And.intro @tq44 (And.intro @tq46 (And.intro @tq84 (And.intro @cv3_5 (And.intro @bsE1x (And.intro @bNx (And.intro @bEn (@bsT17)))))))))))))))))))
end tyMuQb
open tyMuQb
theorem notsE_sz:∀ (j:Nat) (e:Ex),(notsE j e).sz ≤ e.sz + 20 * j
 | 0,e=>by simp [notsE]
 | j + 1, e => by
   have:=notsE_sz j e
   rw [notsE]
   simp only [Ex.sz,exprsSz,List.length_nil]
   omega
theorem ifsB_sz:∀ (j:Nat) (b:List St),stmtsSz (ifsB j b) ≤ stmtsSz b + 20 * j
 | 0,b=>by simp [ifsB]
 | j + 1, b => by
   have:=ifsB_sz j b
   rw [ifsB]
   simp only [stmtsSz,St.sz,numN,zE,Ex.sz,exprsSz,List.length_nil]
   omega
theorem bIf7 (v:AV) (h:AV.one v=true):buildA Try.prog 46 [(0,.int .i64 3),(5,.agg [.int .i64 1,.int .i64 0,.str [],.int .i64 0,.nilS]),(7,v)]=some (.agg [.int .i64 3,.str [],.str [],.int .i64 0,.int .i64 0,.int .i64 0,.str [],.int .i64 0,.nilS,.int .i64 1,.int .i64 0,.str [],.int .i64 0,.nilS,.nilS,v,.nilS]):=by
 cases v <;> first|(cases h;done)|kernel_rfl
section
variable {i:Nat} {pt:Nat → Nat} {lo b b' n:Nat} {H:Hp} {ra rf:Nat} {x y:Int} {f g:Fu} {pf lf bf:AV} {vf:List AV} {pg lg bg:AV} {vg:List AV} (h:ProgX i pt lo b b' n H ra rf x y f g pf lf bf vf pg lg bg vg)
include h
theorem ProgX.setV' {H':Hp} {n':Nat} {vf':List AV} (w:Ex) (hn:H.next ≤ H'.next) (hn':n ≤ n') (hk:∀ q,lo ≤ q → q < H.next → q ≠ rf → pt q ≠ b + 3 → H'.get q=H.get q) (gf:H'.get rf=some (.cells (ordC i (fnC f.name pf lf bf vf') (fnC g.name pg lg bg vg)) 0 true))
   (hl:vf'.length=5) (ho:vf'.all AV.one=true) (hw:CellsW (fun q=>H.next ≤ q ∨ pt q=b + 3) n' H' vf' w.cells):ProgX i (fun q=>if H.next ≤ q then b + 3 else pt q) lo b b' n' H' ra rf x y { f with value:=w } g pf lf bf vf' pg lg bg vg:=by
 have hb:=h.hb
 have lr:=h.lrf
 have kp:∀ q,q < H.next → b ≤ pt q → pt q ≠ b + 3 → H'.get q=H.get q:=fun q h1 h2 h3=>hk q (h.lo_of (by omega)) h1 (fun e=>by rw [e] at h2;omega) h3
 refine h.upd ⟨by omega,by omega⟩ hn hn' hk gf ⟨hl,ho,(h.F.ps.keep (fun k h1 h2=>by show (if _ then _ else _)=b;rw [if_neg (by omega)];exact h2) hn fun k h1 h2=>kp k h2 (by omega) (by omega)).up hn',(h.F.ls.keep (fun k h1 h2=>by show (if _ then _ else _)=b + 1;rw [if_neg (by omega)];exact h2) hn fun k h1 h2=>kp k h2 (by omega) (by omega)).up hn',(h.F.bo.keep (fun k h1 h2=>by show (if _ then _ else _)=b + 2;rw [if_neg (by omega)];exact h2) hn fun k h1 h2=>kp k h2 (by omega) (by omega)).up hn',hw.keep2 (fun k h1 h2=>?_) (Nat.le_refl _) fun _ _ _=>rfl⟩
 show (if _ then _ else _)=b + 3
 split
 · rfl
 · rcases h2 with h2 | h2
   · omega
   · exact h2
end
set_option maxRecDepth 100000 in
theorem mp8 {lG : List En} (hG : MutL lG) {i : Nat} {a h k : Int} {lo m P : Nat} {Hs H : Hp} {ra rf : Nat} {x y : Int} {f g : Fu} {pf lf bf : AV} {vf : List AV} {pg lg bg : AV} {vg : List AV} {E : Env} (hat : AtM i a h k lo m P Hs H ra rf x y f g pf lf bf vf pg lg bg vg E) (hh : h = 8) : Wp Try.prog (cfgN pls lG) 12 285 mpBody E H (TailM lo m P Hs) := by
  obtain ⟨⟨pt,b,b',hX,hPt⟩,hi,hm,loP,ltP,gp,old,fs,gs,fn,gn,hpi,k2,k6,k7,k8,k9,k27⟩:=hat
  have hkeep:(cfgN pls lG).keep 12=false:=rfl
  subst hh
  obtain ⟨v0,v1,v2,v3,v4,rfl⟩:=len5 hX.F.len
  obtain ⟨w0,w1,w2,w3,w4,rfl⟩:=len5 hX.G.len
  obtain ⟨z0,z1,z2,z3,z4⟩:=all5 hX.F.one
  have ltA:=hX.ltA
  have ltF:=hX.ltF
  have hlo:=hX.hlo
  have hbb:=hX.hb
  have lrf:=hX.lrf
  have lra:=hX.lra
  have rfP:rf ≠ P:=fun e=>by rw [e] at lrf;omega
  have raP:ra ≠ P:=fun e=>by rw [e] at lra;omega
  have hrr:=hX.ne
  have lof:=hX.lo_of (q:=rf) (by omega)
  have loa:=hX.lo_of (q:=ra) (by omega)
  have e1:(rf == H.next)=false:=ne_beq (by omega)
  have e2:(rf == H.next + 1)=false:=ne_beq (by omega)
  have e3:(rf == H.next + 2)=false:=ne_beq (by omega)
  have e4:(H.next == rf)=false:=ne_beq (by omega)
  have e5:(rf == P)=false:=ne_beq rfP
  have e6:(P == rf)=false:=ne_beq (Ne.symm rfP)
  have e7:(P == H.next)=false:=ne_beq (by omega)
  have e8:(P == H.next + 1)=false:=ne_beq (by omega)
  have e9:(ra == H.next)=false:=ne_beq (by omega)
  have e10:(ra == H.next + 1)=false:=ne_beq (by omega)
  have hpr:=pickG_range (n:=k) (m:=30) (by omega) (by omega)
  obtain ⟨M,hM⟩:∃ M:Nat,pickG k 30=(M:Int):=⟨(pickG k 30).toNat,by omega⟩
  have hMl:M < 30:=by omega
  have kp:=fun H=>pick_en hG.pick k 30 (by decide) H
  rw [hM] at kp
  rcases hi with rfl|rfl
  all_goals
    simp only [Nat.mul_zero,Nat.mul_one] at k8
    first|have gf:=hX.gf0|have gf:=hX.gf1
    dsimp only [mpBody,scB,scL,scR,code12]
    repeat' (first
       | (apply Rx.nl ?_;clear hK K)|apply Ry.o ?_|apply Ry.on ?_|(apply Ry.cd (fun hb hbp=>?_) (fun hb hbp=>?_) <;> try (cases hb;done))|apply Wp.seq ?_|(apply Wp.ops' fun K hK=>?_)|apply Wp.block ?_|apply Rx.sk ?_|apply Rx.xt ?_)
    refine Wp.forI [2,6,7,8,9] [] 11 M (fun j E H3=>∃ pt' u0 u1 u2 u3 u4,ProgX _ pt' lo b b' (14 + j) H3 ra rf x y { f with value:=notsE j f.value } g pf lf bf [u0,u1,u2,u3,u4] pg lg bg [w0,w1,w2,w3,w4] ∧ pt' P=0 ∧ (∀ q,q < H.next → pt q=0 → pt' q=0) ∧ (∀ q,q < H.next → pt q=0 → H3.get q=H.get q)) eE ⟨pt,v0,v1,v2,v3,v4,hX,hPt,fun _ _ h=>h,fun _ _ _=>rfl⟩ ?_
    rintro j E H3 hj hcE hrH hnH hsI ⟨pt',u0,u1,u2,u3,u4,hX3,hP3,hl3,hf3⟩
    (try simp only [forall_cons,forall_nil,and_true,sB,sO,Nat.reduceBEq,Nat.reduceAdd,Nat.reduceLeDiff,tyF, *] at hcE)
    (try simp only [forall_cons,forall_nil,and_true,sB,sO,Nat.reduceBEq,Nat.reduceAdd,Nat.reduceLeDiff,tyF, *] at hrH)
    (try simp only [Hp.next_alloc,Hp.next_set,H0_next,Nat.zero_add,Nat.reduceAdd] at hnH)
    have hnx:H.next ≤ H3.next:=by simpa using hnH
    have f1:(rf == H3.next)=false:=ne_beq (by omega)
    have f2:(rf == H3.next + 1)=false:=ne_beq (by omega)
    have f3:(rf == H3.next + 2)=false:=ne_beq (by omega)
    have ag:∀ r,aggA 5 (u0 :: u1 :: u2 :: u3 :: u4 :: r)=some (.agg [u0,u1,u2,u3,u4]):=fun r=>rfl
    first|have gf3:=hX3.gf0|have gf3:=hX3.gf1
    repeat' (first
       | (apply Rx.nl ?_;clear hK K)|apply Ry.o ?_|apply Ry.on ?_|(apply Ry.call ?_;first|refine Rx.k (kp _) ?_)|(apply Ry.cd (fun hb hbp=>?_) (fun hb hbp=>?_) <;> try (cases hb;done))|apply Wp.seq ?_|(apply Wp.ops' fun K hK=>?_)|apply Wp.block ?_|apply Rx.sk ?_|apply Rx.xt ?_)
    · have hlt : j < M := by omega
      obtain ⟨y0,y1,y2,y3,y4⟩:=all5 hX3.F.one
      repeat' (first
         | (apply Rx.nl ?_;clear hK K)|apply Wp.seq ?_|(apply Wp.ops' fun K hK=>?_)|apply Wp.block ?_|apply Rx.sk ?_|apply Rx.xt ?_)
      refine ⟨by omega,eL,eL,eN,(by simp only [sB,Nat.reduceBEq, *];exact i64_succ (n:=M) (by omega) (by omega)),?_⟩
      have lrf3:=hX3.lrf
      refine ⟨_,_,_,_,_,_,hX3.setV' (H':=_) (n':=14 + (j + 1)) (vf':=[.int .i64 4,.int .i64 0,.str [],.int .i64 21,.sl H3.next 0 1 5]) (notsE (j + 1) f.value) ?_ (by omega) ?_ ?_ rfl rfl ?_,?_,?_,?_⟩
      · simp only [Hp.next_set,Hp.next_alloc];omega
      · intro q _ h1 h2 _;rw [Hp.get_set,if_neg h2,alloc_old h1]
      · rw [Hp.get_set,if_pos rfl];rfl
      · refine ex_node (n:=14 + j) _ _ _ _ (RdW.rows (n:=14 + j) (a:=[[u0,u1,u2,u3,u4]]) (b:=[(notsE j f.value).cells]) (imm:=0) (tip:=true) (.inl (Nat.le_refl _)) (Nat.lt_succ_self _) (by rw [Hp.get_set,if_neg (by omega),Hp.get_alloc,if_pos rfl];rfl) (by simp) ⟨⟨rfl,hX3.F.vw.keep2 (fun q _ h=>.inr h) (Nat.le_succ _) fun q h1 h2=>by rw [Hp.get_set,if_neg (fun e=>by rw [e] at h1;omega),alloc_old h2]⟩,trivial⟩)
      · show (if _ then _ else _)=0;rw [if_neg (by omega)];exact hP3
      · intro q h1 h2;show (if _ then _ else _)=0;rw [if_neg (by omega)];exact hl3 q h1 h2
      · intro q h1 h2
        have:=hl3 q h1 h2
        rw [Hp.get_set,if_neg (fun e=>by rw [e] at this;omega),alloc_old (by omega)];exact hf3 q h1 h2
    · have hje : j = M := by omega
      subst hje
      refine ⟨rfl,eE,eE,MutI.upd hX hPt ltP gp old hX3 hP3 hnx hf3 (by omega) ?_ (by omega) fn gn⟩
      have:=notsE_sz j f.value
      simp only [Fu.sz] at fs ⊢;omega
set_option maxRecDepth 100000 in
theorem mp9 {lG : List En} (hG : MutL lG) {i : Nat} {a h k : Int} {lo m P : Nat} {Hs H : Hp} {ra rf : Nat} {x y : Int} {f g : Fu} {pf lf bf : AV} {vf : List AV} {pg lg bg : AV} {vg : List AV} {E : Env} (hat : AtM i a h k lo m P Hs H ra rf x y f g pf lf bf vf pg lg bg vg E) (hh : h = 9) : Wp Try.prog (cfgN pls lG) 12 285 mpBody E H (TailM lo m P Hs) := by
  obtain ⟨⟨pt,b,b',hX,hPt⟩,hi,hm,loP,ltP,gp,old,fs,gs,fn,gn,hpi,k2,k6,k7,k8,k9,k27⟩:=hat
  have hkeep:(cfgN pls lG).keep 12=false:=rfl
  subst hh
  obtain ⟨v0,v1,v2,v3,v4,rfl⟩:=len5 hX.F.len
  obtain ⟨w0,w1,w2,w3,w4,rfl⟩:=len5 hX.G.len
  obtain ⟨z0,z1,z2,z3,z4⟩:=all5 hX.F.one
  have ltA:=hX.ltA
  have ltF:=hX.ltF
  have hlo:=hX.hlo
  have hbb:=hX.hb
  have lrf:=hX.lrf
  have lra:=hX.lra
  have rfP:rf ≠ P:=fun e=>by rw [e] at lrf;omega
  have raP:ra ≠ P:=fun e=>by rw [e] at lra;omega
  have hrr:=hX.ne
  have lof:=hX.lo_of (q:=rf) (by omega)
  have loa:=hX.lo_of (q:=ra) (by omega)
  have e1:(rf == H.next)=false:=ne_beq (by omega)
  have e2:(rf == H.next + 1)=false:=ne_beq (by omega)
  have e3:(rf == H.next + 2)=false:=ne_beq (by omega)
  have e4:(H.next == rf)=false:=ne_beq (by omega)
  have e5:(rf == P)=false:=ne_beq rfP
  have e6:(P == rf)=false:=ne_beq (Ne.symm rfP)
  have e7:(P == H.next)=false:=ne_beq (by omega)
  have e8:(P == H.next + 1)=false:=ne_beq (by omega)
  have e9:(ra == H.next)=false:=ne_beq (by omega)
  have e10:(ra == H.next + 1)=false:=ne_beq (by omega)
  have hpr:=pickG_range (n:=k) (m:=30) (by omega) (by omega)
  obtain ⟨M,hM⟩:∃ M:Nat,pickG k 30=(M:Int):=⟨(pickG k 30).toNat,by omega⟩
  have hMl:M < 30:=by omega
  have kp:=fun H=>pick_en hG.pick k 30 (by decide) H
  rw [hM] at kp
  rcases hi with rfl|rfl
  all_goals
    simp only [Nat.mul_zero,Nat.mul_one] at k8
    first|have gf:=hX.gf0|have gf:=hX.gf1
    dsimp only [mpBody,scB,scL,scR,code12]
    repeat' (first
       | (apply Rx.nl ?_;clear hK K)|apply Ry.o ?_|(apply Ry.cd (fun hb hbp=>?_) (fun hb hbp=>?_) <;> try (cases hb;done))|apply Wp.seq ?_|(apply Wp.ops' fun K hK=>?_)|apply Wp.block ?_|apply Rx.sk ?_|apply Rx.xt ?_)
    refine Wp.forI [2,6,7,8,9] [] 12 M (fun j E H3=>∃ pt' bf',ProgX _ pt' lo b b' (14 + j) H3 ra rf x y { f with body:=ifsB j f.body } g pf lf bf' [v0,v1,v2,v3,v4] pg lg bg [w0,w1,w2,w3,w4] ∧ pt' P=0 ∧ (∀ q,q < H.next → pt q=0 → pt' q=0) ∧ (∀ q,q < H.next → pt q=0 → H3.get q=H.get q)) eE ⟨pt,bf,hX,hPt,fun _ _ h=>h,fun _ _ _=>rfl⟩ ?_
    rintro j E H3 hj hcE hrH hnH hsI ⟨pt',bf',hX3,hP3,hl3,hf3⟩
    (try simp only [forall_cons,forall_nil,and_true,sB,sO,Nat.reduceBEq,Nat.reduceAdd,Nat.reduceLeDiff,tyF, *] at hcE)
    (try simp only [forall_cons,forall_nil,and_true,sB,sO,Nat.reduceBEq,Nat.reduceAdd,Nat.reduceLeDiff,tyF, *] at hrH)
    (try simp only [Hp.next_alloc,Hp.next_set,H0_next,Nat.zero_add,Nat.reduceAdd] at hnH)
    have hnx:H.next ≤ H3.next:=by simpa using hnH
    have f1:(rf == H3.next)=false:=ne_beq (by omega)
    have f2:(rf == H3.next + 1)=false:=ne_beq (by omega)
    have f3:(rf == H3.next + 2)=false:=ne_beq (by omega)
    first|have gf3:=hX3.gf0|have gf3:=hX3.gf1
    obtain ⟨o1,o2⟩:=hX3.F.bo.one
    repeat' (first
       | (apply Rx.nl ?_;clear hK K)|apply Ry.o ?_|(apply Ry.call ?_;first|refine Rx.k (kp _) ?_)|(apply Ry.cd (fun hb hbp=>?_) (fun hb hbp=>?_) <;> try (cases hb;done))|apply Wp.seq ?_|(apply Wp.ops' fun K hK=>?_)|apply Wp.block ?_|apply Rx.sk ?_|apply Rx.xt ?_)
    · have hlt : j < M := by omega
      have gh0:=@bIf7
      repeat' (first
         | (apply Rx.nl ?_;clear hK K)|apply Rx.o ?_|apply Rx.on ?_|apply Wp.seq ?_|(apply Wp.ops' fun K hK=>?_)|apply Wp.block ?_|apply Rx.sk ?_|apply Rx.xt ?_)
      refine ⟨by omega,eL,eL,eN,(by simp only [sB,Nat.reduceBEq, *];exact i64_succ (n:=M) (by omega) (by omega)),?_⟩
      have lrf3:=hX3.lrf
      refine ⟨_,_,hX3.setB (H':=_) (n':=14 + (j + 1)) (bf':=.sl H3.next 0 1 17) (ifsB (j + 1) f.body) ?_ (by omega) ?_ ?_ ?_,?_,?_,?_⟩
      · simp only [Hp.next_set,Hp.next_alloc];omega
      · intro q _ h1 h2 _;rw [Hp.get_set,if_neg h2,alloc_old h1]
      · rw [Hp.get_set,if_pos rfl];rfl
      · refine .inr ⟨H3.next, 0, [[.int .i64 3, .str [], .str [], .int .i64 0, .int .i64 0, .int .i64 0, .str [], .int .i64 0, .nilS, .int .i64 1, .int .i64 0, .str [], .int .i64 0, .nilS, .nilS, bf', .nilS]], rfl, if_pos (Nat.le_refl _), Nat.lt_succ_self _, by rw [Hp.get_set, if_neg (by omega), Hp.get_alloc, if_pos rfl]; rfl, by simp, ⟨rfl, ?_⟩, trivial⟩
        exact st_node (n:=14 + j) 3 [] [] 0 zC_w (ex_leaf 1 0 0 []) .nilS (hX3.F.bo.rd.keep2 (fun q h1 h2=>⟨by show (if _ then _ else _)=_;rw [if_neg (by omega)];exact h2,by omega⟩) (Nat.le_succ _) fun q h1 h2=>by rw [Hp.get_set,if_neg (fun e=>by rw [e] at h1;omega),alloc_old h2]) .nilS
      · show (if _ then _ else _)=0;rw [if_neg (by omega)];exact hP3
      · intro q h1 h2;show (if _ then _ else _)=0;rw [if_neg (by omega)];exact hl3 q h1 h2
      · intro q h1 h2
        have:=hl3 q h1 h2
        rw [Hp.get_set,if_neg (fun e=>by rw [e] at this;omega),alloc_old (by omega)];exact hf3 q h1 h2
    · have hje : j = M := by omega
      subst hje
      refine ⟨rfl,eE,eE,MutI.upd hX hPt ltP gp old hX3 hP3 hnx hf3 (by omega) ?_ (by omega) fn gn⟩
      have:=ifsB_sz j f.body
      simp only [Fu.sz] at fs ⊢;omega
end Go.Proofs.Ytackdnelcpbfjaa
namespace Go.Proofs.Ytackdnelcpbfjaa
set_option maxRecDepth 20000
set_option maxRecDepth 20000
open Go Go.Ab
namespace tyMuQd
def tyF:=And.intro @tq2 (And.intro @tq3 (And.intro @tq5 (And.intro @tq9 (And.intro @tq22 (And.intro @tq23 (And.intro @tq25 (And.intro @tq35 (And.intro @tq36 (And.intro @tq37 (And.intro @tq39 (And.intro @tq41 (And.intro @tq44 (And.intro @tq46 (And.intro @tq84 (And.intro @cv3_5 (@aggE5))))))))))))))))
end tyMuQd
open tyMuQd
theorem exprsSz_app:∀ a b:List Ex,exprsSz (a ++ b)=exprsSz a + exprsSz b
 | [],b=>by rw [List.nil_append,exprsSz];omega
 | x :: a,b=>by rw [List.cons_append,exprsSz,exprsSz,exprsSz_app a b];omega
mutual
theorem mutE_sz:∀ (e:Ex) (how a:Int),(mutE e how a).sz ≤ e.sz + 20
 | .mk k n nm op kids, how, a => by
   have h1:=nmx_len (l:=nmsE) (by decide) (pickG a 6).toNat
   have h2:=mutK_sz kids (pickG a kids.length).toNat (w64 (how.tdiv 9)) (w64 (a.tdiv 3))
   rw [mutE]
   (repeat' split) <;> simp only [Ex.sz,exprsSz_app,exprsSz,num0,List.length_nil,nmM] <;> omega
theorem mutK_sz:∀ (l:List Ex) (i:Nat) (how a:Int),exprsSz (mutK l i how a) ≤ exprsSz l + 20
 | [],_,_,_=>by rw [mutK];omega
 | x :: l, 0, how, a => by
   have:=mutE_sz x how a
   rw [mutK,exprsSz,exprsSz];omega
 | x :: l, i + 1, how, a => by
   have:=mutK_sz l i how a
   rw [mutK,exprsSz,exprsSz];omega
end
mutual
theorem mutS_sz:∀ (e:St) (how a:Int),(mutS e how a).sz ≤ e.sz + 40
 | .mk k nm to n e v args thn els, how, a => by
   have h1:=nmx_len (l:=nmsS1) (by decide) (pickG a 6).toNat
   have h2:=nmx_len (l:=nmsS2) (by decide) (pickG a 5).toNat
   have h3:=mutL_sz thn (pickG a thn.length).toNat (w64 (how.tdiv 13)) (w64 (a.tdiv 3))
   have h4:=mutE_sz e (w64 (how.tdiv 13)) a
   have h5:=mutE_sz v (w64 (how.tdiv 13)) a
   rw [mutS]
   generalize pickG how 13=q
   by_cases c0:q=0
   · rw [if_pos c0];simp only [St.sz,exprsSz_app,exprsSz,stmtsSz_app,stmtsSz,Ex.sz,num0,zE,trp,List.length_nil,nmM];omega
   rw [if_neg c0]
   by_cases c1:q=1
   · rw [if_pos c1];simp only [St.sz,exprsSz_app,exprsSz,stmtsSz_app,stmtsSz,Ex.sz,num0,zE,trp,List.length_nil,nmM];omega
   rw [if_neg c1]
   by_cases c2:q=2
   · rw [if_pos c2];simp only [St.sz,exprsSz_app,exprsSz,stmtsSz_app,stmtsSz,Ex.sz,num0,zE,trp,List.length_nil,nmM];omega
   rw [if_neg c2]
   by_cases c3:q=3
   · rw [if_pos c3];simp only [St.sz,exprsSz_app,exprsSz,stmtsSz_app,stmtsSz,Ex.sz,num0,zE,trp,List.length_nil,nmM];omega
   rw [if_neg c3]
   by_cases c4:q=4
   · rw [if_pos c4];simp only [St.sz,exprsSz_app,exprsSz,stmtsSz_app,stmtsSz,Ex.sz,num0,zE,trp,List.length_nil,nmM];omega
   rw [if_neg c4]
   by_cases c5:q=5
   · rw [if_pos c5];simp only [St.sz,exprsSz_app,exprsSz,stmtsSz_app,stmtsSz,Ex.sz,num0,zE,trp,List.length_nil,nmM];omega
   rw [if_neg c5]
   by_cases c6:q=6
   · rw [if_pos c6];simp only [St.sz,exprsSz_app,exprsSz,stmtsSz_app,stmtsSz,Ex.sz,num0,zE,trp,List.length_nil,nmM];omega
   rw [if_neg c6]
   by_cases c7:q=7
   · rw [if_pos c7];simp only [St.sz,exprsSz_app,exprsSz,stmtsSz_app,stmtsSz,Ex.sz,num0,zE,trp,List.length_nil,nmM];omega
   rw [if_neg c7]
   by_cases c8:q=8
   · rw [if_pos c8];simp only [St.sz,exprsSz_app,exprsSz,stmtsSz_app,stmtsSz,Ex.sz,num0,zE,trp,List.length_nil,nmM];omega
   rw [if_neg c8]
   by_cases c9:q=9
   · rw [if_pos c9];simp only [St.sz,exprsSz_app,exprsSz,stmtsSz_app,stmtsSz,Ex.sz,num0,zE,trp,List.length_nil,nmM];omega
   rw [if_neg c9]
   by_cases c10:q=10
   · rw [if_pos c10];simp only [St.sz,exprsSz_app,exprsSz,stmtsSz_app,stmtsSz,Ex.sz,num0,zE,trp,List.length_nil,nmM];omega
   rw [if_neg c10]
   simp only [St.sz];omega
theorem mutL_sz:∀ (l:List St) (i:Nat) (how a:Int),stmtsSz (mutL l i how a) ≤ stmtsSz l + 40
 | [],_,_,_=>by rw [mutL];omega
 | x :: l, 0, how, a => by
   have:=mutS_sz x how a
   rw [mutL,stmtsSz,stmtsSz];omega
 | x :: l, i + 1, how, a => by
   have:=mutL_sz l i how a
   rw [mutL,stmtsSz,stmtsSz];omega
end
theorem ixA2a (r:Nat):indexAddrA Try.prog 22 (.sl r 0 2 2) (.int .i64 0)=some (.ptr r 0):=by kernel_rfl
theorem ixA2b (r:Nat):indexAddrA Try.prog 22 (.sl r 0 2 2) (.int .i64 1)=some (.ptr r 2):=by kernel_rfl
set_option maxRecDepth 100000 in
theorem mp5 {lG:List En} (hG:MutL lG) {i:Nat} {a h k:Int} {lo m P:Nat} {Hs H:Hp} {ra rf:Nat} {x y:Int} {f g:Fu} {pf lf bf:AV} {vf:List AV} {pg lg bg:AV} {vg:List AV} {E:Env} (hat:AtM i a h k lo m P Hs H ra rf x y f g pf lf bf vf pg lg bg vg E) (hh:h=5):Wp Try.prog (cfgN pls lG) 12 285 mpBody E H (TailM lo m P Hs):=by
 obtain ⟨⟨pt,b,b',hX,hPt⟩,hi,hm,loP,ltP,gp,old,fs,gs,fn,gn,hpi,k2,k6,k7,k8,k9,k27⟩:=hat
 have hkeep:(cfgN pls lG).keep 12=false:=rfl
 subst hh
 obtain ⟨v0,v1,v2,v3,v4,rfl⟩:=len5 hX.F.len
 obtain ⟨w0,w1,w2,w3,w4,rfl⟩:=len5 hX.G.len
 obtain ⟨z0,z1,z2,z3,z4⟩:=all5 hX.F.one
 have ltA:=hX.ltA
 have ltF:=hX.ltF
 have hlo:=hX.hlo
 have hbb:=hX.hb
 have lrf:=hX.lrf
 have lra:=hX.lra
 have rfP:rf ≠ P:=fun e=>by rw [e] at lrf;omega
 have raP:ra ≠ P:=fun e=>by rw [e] at lra;omega
 have hrr:=hX.ne
 have lof:=hX.lo_of (q:=rf) (by omega)
 have loa:=hX.lo_of (q:=ra) (by omega)
 have e1:(rf == H.next)=false:=ne_beq (by omega)
 have e2:(rf == H.next + 1)=false:=ne_beq (by omega)
 have e3:(rf == H.next + 2)=false:=ne_beq (by omega)
 have e4:(H.next == rf)=false:=ne_beq (by omega)
 have e5:(rf == P)=false:=ne_beq rfP
 have e6:(P == rf)=false:=ne_beq (Ne.symm rfP)
 have e7:(P == H.next)=false:=ne_beq (by omega)
 have e8:(P == H.next + 1)=false:=ne_beq (by omega)
 have e9:(ra == H.next)=false:=ne_beq (by omega)
 have e10:(ra == H.next + 1)=false:=ne_beq (by omega)
 have hga:=hX.ga
 have kq:=pick_en hG.pick k 20 (by decide)
 have kp2:=pick_en hG.pick a 2 (by decide)
 rcases hi with rfl|rfl
 all_goals
   simp only [Nat.mul_zero,Nat.mul_one] at k8
   first|have gf:=hX.gf0|have gf:=hX.gf1
   first|(replace hpi:pickG a 2=0:=hpi)|(replace hpi:pickG a 2=1:=hpi)
   rw [hpi] at kp2
   dsimp only [mpBody,scB,scL,scR,code12]
   have gh0:=@ixA2a
   have gh1:=@ixA2b
   repeat' (first
      | (apply Rx.nl ?_;clear hK K)|apply Ry.o ?_|apply Ry.on ?_|(apply Ry.call ?_;first|refine Rx.k (kp2 _) ?_|refine Rx.k (kq _) ?_)|(apply Ry.cd (fun hb hbp=>?_) (fun hb hbp=>?_) <;> try (cases hb;done))|apply Wp.seq ?_|(apply Wp.ops' fun K hK=>?_)|(apply Rx.dT 17 [(1,3),(1,5),(1,9)] fun K hK=>?_)|(apply Rx.nq ?_;try intro _)|(apply Rx.nt ?_ ?_ <;> clear hK K)|apply WpT.step ?_|apply WpT.step0 rfl ?_|apply Wp.block ?_)
   · exact eK
   first
   | refine ⟨rfl, eE, eE, MutI.upd hX hPt ltP gp old (hX.setA (x' := IntKind.wrap .i64 (pickG k 20 - 1)) (y' := y) (nf := f.name) ?_ ?_ ?_ ?_) hPt ?_ ?_ (by omega) (by show f.sz < _; omega) (by omega) fn gn⟩ <;> (first | (rw [Hp.get_set, if_pos rfl]; done) | skip)
     · simp only [Hp.next_set];omega
     · intro q _ h1 h2 h3;rw [Hp.get_set,if_neg h2]
     · rw [Hp.get_set,if_neg (by omega)];exact hX.gf
     · simp only [Hp.next_set];omega
     · intro q h1 h2;rw [Hp.get_set,if_neg (fun e=>by rw [e] at h2;omega)]
   | refine ⟨rfl, eE, eE, MutI.upd hX hPt ltP gp old (hX.setA (x' := x) (y' := IntKind.wrap .i64 (pickG k 20 - 1)) (nf := f.name) ?_ ?_ ?_ ?_) hPt ?_ ?_ (by omega) (by show f.sz < _; omega) (by omega) fn gn⟩ <;> (first | (rw [Hp.get_set, if_pos rfl]; done) | skip)
     · simp only [Hp.next_set];omega
     · intro q _ h1 h2 h3;rw [Hp.get_set,if_neg h2]
     · rw [Hp.get_set,if_neg (by omega)];exact hX.gf
     · simp only [Hp.next_set];omega
     · intro q h1 h2;rw [Hp.get_set,if_neg (fun e=>by rw [e] at h2;omega)]
set_option maxRecDepth 100000 in
theorem mp7 {lG:List En} (hG:MutL lG) {i:Nat} {a h k:Int} {lo m P:Nat} {Hs H:Hp} {ra rf:Nat} {x y:Int} {f g:Fu} {pf lf bf:AV} {vf:List AV} {pg lg bg:AV} {vg:List AV} {E:Env} (hat:AtM i a h k lo m P Hs H ra rf x y f g pf lf bf vf pg lg bg vg E) (hh:h=7):Wp Try.prog (cfgN pls lG) 12 285 mpBody E H (TailM lo m P Hs):=by
 obtain ⟨⟨pt,b,b',hX,hPt⟩,hi,hm,loP,ltP,gp,old,fs,gs,fn,gn,hpi,k2,k6,k7,k8,k9,k27⟩:=hat
 have hkeep:(cfgN pls lG).keep 12=false:=rfl
 subst hh
 obtain ⟨v0,v1,v2,v3,v4,rfl⟩:=len5 hX.F.len
 obtain ⟨w0,w1,w2,w3,w4,rfl⟩:=len5 hX.G.len
 obtain ⟨z0,z1,z2,z3,z4⟩:=all5 hX.F.one
 have ltA:=hX.ltA
 have ltF:=hX.ltF
 have hlo:=hX.hlo
 have hbb:=hX.hb
 have lrf:=hX.lrf
 have lra:=hX.lra
 have rfP:rf ≠ P:=fun e=>by rw [e] at lrf;omega
 have raP:ra ≠ P:=fun e=>by rw [e] at lra;omega
 have hrr:=hX.ne
 have lof:=hX.lo_of (q:=rf) (by omega)
 have loa:=hX.lo_of (q:=ra) (by omega)
 have e1:(rf == H.next)=false:=ne_beq (by omega)
 have e2:(rf == H.next + 1)=false:=ne_beq (by omega)
 have e3:(rf == H.next + 2)=false:=ne_beq (by omega)
 have e4:(H.next == rf)=false:=ne_beq (by omega)
 have e5:(rf == P)=false:=ne_beq rfP
 have e6:(P == rf)=false:=ne_beq (Ne.symm rfP)
 have e7:(P == H.next)=false:=ne_beq (by omega)
 have e8:(P == H.next + 1)=false:=ne_beq (by omega)
 have e9:(ra == H.next)=false:=ne_beq (by omega)
 have e10:(ra == H.next + 1)=false:=ne_beq (by omega)
 rcases hi with rfl|rfl
 all_goals
   simp only [Nat.mul_zero,Nat.mul_one] at k8
   first|have gf:=hX.gf0|have gf:=hX.gf1
   have ag:∀ r,aggA 5 (v0 :: v1 :: v2 :: v3 :: v4 :: r)=some (.agg [v0,v1,v2,v3,v4]):=fun r=>rfl
   dsimp only [mpBody,scB,scL,scR,code12]
   repeat' (first
      | (apply Rx.nl ?_;clear hK K)|apply Ry.o ?_|(apply Ry.cd (fun hb hbp=>?_) (fun hb hbp=>?_) <;> try (cases hb;done))|apply Wp.seq ?_|(apply Wp.ops' fun K hK=>?_)|apply Wp.block ?_)
   refine WpL.call rfl eVk eAk ?_;simp only [List.cons_append,List.nil_append,List.append_nil]
   refine WpCall.mono ?_ (mutEM hG.me hG.mei (n:=14) (by omega) hX.F.vw (by simp only [Fu.sz] at fs;omega) k a)
   rintro _ H5 ⟨rfl,hI⟩
   have hes:=mutE_sz f.value k a
   generalize mutE f.value k a=e5 at *
   rw [Ex.cells_eq]
   have gr:=(hI.out rf (show ¬ pt rf=b + 3 by omega)).trans gf
   have n5:=hI.next
   dsimp only [setO]
   repeat' (first
      | (apply Rx.nl ?_;clear hK K)|apply Rx.o ?_|apply Rx.on ?_|apply Wp.seq ?_|(apply Wp.ops' fun K hK=>?_)|apply Wp.block ?_)
   refine ⟨rfl,eE,eE,MutI.upd hX hPt ltP gp old (hX.setV' (H':=_) (n':=14) (vf':=[.int .i64 e5.kind,.int .i64 e5.n,.str e5.name,.int .i64 e5.op,.lst (e5.kids.map Ex.cells)]) e5 ?_ (by omega) ?_ ?_ rfl rfl (exW (n:=13) e5)) ?_ ?_ ?_ (by omega) ?_ (by omega) fn gn⟩
   · simp only [Hp.next_set];omega
   · intro q _ h1 h2 h3;rw [Hp.get_set,if_neg h2];exact hI.out q h3
   · rw [Hp.get_set,if_pos rfl];rfl
   · show (if _ then _ else _)=0;rw [if_neg (by omega)];exact hPt
   · simp only [Hp.next_set];omega
   · intro q h1 h2;rw [Hp.get_set,if_neg (fun e=>by rw [e] at h2;omega)];exact hI.out q (show ¬ pt q=b + 3 by omega)
   · simp only [Fu.sz] at fs ⊢;omega
end Go.Proofs.Ytackdnelcpbfjaa
namespace Go.Proofs.Ytackdnelcpbfjaa
set_option maxRecDepth 20000
set_option maxRecDepth 20000
open Go Go.Ab
namespace tyMuQe
def tyF:=And.intro @tq2 (And.intro @tq3 (And.intro @tq5 (And.intro @tq9 (And.intro @tq22 (And.intro @tq23 (And.intro @tq25 (And.intro @tq35 (And.intro @tq36 (And.intro @tq37 (And.intro @tq39 (And.intro @tq41 (And.intro @tq44 (And.intro @tq46 (And.intro @tq84 (And.intro @cv3_5 (And.intro @bin_quo (@bsS0')))))))))))))))))
end tyMuQe
open tyMuQe
theorem stmtsSz_set:∀ (l:List St) (i:Nat) (e:St),i < l.length → stmtsSz (l.set i e) ≤ stmtsSz l + e.sz
 | [],_,_,h=>by simp at h
 | x :: l,0,e,_=>by rw [List.set_cons_zero,stmtsSz,stmtsSz];omega
 | x :: l, i + 1, e, h => by
   have:=stmtsSz_set l i e (by simpa using h)
   rw [List.set_cons_succ,stmtsSz,stmtsSz];omega
theorem stW {S:Nat → Prop} {n:Nat} {H:Hp} (e:St):CellsW S (n + 1) H e.cells e.cells:=(RowsW.sts [e]).1.2
theorem cell_one {S:Nat → Prop} {n m:Nat} {H:Hp} {c u w:AV} (h:Ic S n H c u) (e:wkN m u=w) (hw:(∃ k x,w=.int k x) ∨ (∃ s,w=.str s) ∨ ∃ l,w=.lst l):AV.one c=true:=by
 cases n with
 | zero=>exact h.elim
 | succ n =>
   cases c with
   | agg cs =>
     obtain ⟨ds,_,rfl⟩:=h
     cases m <;> rcases hw with ⟨_,_,rfl⟩|⟨_,rfl⟩|⟨_,rfl⟩ <;> simp [wkN] at e
   | tup cs =>
     obtain ⟨_,rfl⟩:=h
     cases m <;> rcases hw with ⟨_,_,rfl⟩|⟨_,rfl⟩|⟨_,rfl⟩ <;> simp [wkN] at e
   | _=>first|rfl|(obtain ⟨_,rfl⟩:=h;cases m <;> rcases hw with ⟨_,_,rfl⟩|⟨_,rfl⟩|⟨_,rfl⟩ <;> simp [wkN] at e)
theorem cells_one {S:Nat → Prop} {n m:Nat} {H:Hp}:∀ {cs us ws:List AV},All2 (Ic S n H) cs us → us.map (wkN m)=ws → (∀ w ∈ ws,(∃ k x,w=.int k x) ∨ (∃ s,w=.str s) ∨ ∃ l,w=.lst l) → cs.all AV.one=true
 | [],_,_,_,_,_=>rfl
 | c :: cs, u :: us, ws, h, e, hw => by
   subst e
   rw [List.all_cons,cell_one (m:=m) h.1 rfl (hw _ List.mem_cons_self),cells_one (m:=m) h.2 rfl fun w h2=>hw w (List.mem_cons_of_mem _ h2)]
   rfl
theorem st_shape (x:St):∀ w ∈ x.cells,(∃ k x,w=AV.int k x) ∨ (∃ s,w=AV.str s) ∨ ∃ l,w=AV.lst l:=by
 rw [St.cells_eq]
 intro w hw
 simp only [List.mem_cons,List.not_mem_nil,or_false] at hw
 rcases hw with rfl|rfl|rfl|rfl|rfl|rfl|rfl|rfl|rfl|rfl|rfl|rfl|rfl|rfl|rfl|rfl|rfl <;> simp
theorem rows_one {S:Nat → Prop} {n:Nat} {H:Hp}:∀ {rows:List (List AV)} {l:List St},RowsW S n H 17 rows (l.map St.cells) → rows.flatten.all AV.one=true
 | [],[],_=>rfl
 | r :: rows, x :: l, h => by
   obtain ⟨us,h1,h2⟩:=h.1.2
   rw [List.flatten_cons,List.all_append,cells_one h1 (h2 n (Nat.le_refl _)) (st_shape x),rows_one h.2]
   rfl
theorem RowsW.icy {S:Nat → Prop} {n z:Nat} {H H':Hp} {a b:List (List AV)} (h:RowsW S n H z a b) (hn:H.next ≤ H'.next) (hf:∀ k,S k → k < H.next → SameB (H.get k) (H'.get k)):RowsW S n H' z a b:=All2.mono (fun x y k=>⟨k.1,k.2.frame (fun _ h=>h) hn hf⟩) h
set_option maxRecDepth 100000 in
theorem mpE {lG : List En} (hG : MutL lG) {i : Nat} {a h k : Int} {lo m P : Nat} {Hs H : Hp} {ra rf : Nat} {x y : Int} {f g : Fu} {pf lf bf : AV} {vf : List AV} {pg lg bg : AV} {vg : List AV} {E : Env} (hat : AtM i a h k lo m P Hs H ra rf x y f g pf lf bf vf pg lg bg vg E) (hh : 12 ≤ h ∧ h ≤ 16) : Wp Try.prog (cfgN pls lG) 12 285 mpBody E H (TailM lo m P Hs) := by
  obtain ⟨⟨pt,b,b',hX,hPt⟩,hi,hm,loP,ltP,gp,old,fs,gs,fn,gn,hpi,k2,k6,k7,k8,k9,k27⟩:=hat
  have hkeep:(cfgN pls lG).keep 12=false:=rfl
  skip
  obtain ⟨v0,v1,v2,v3,v4,rfl⟩:=len5 hX.F.len
  obtain ⟨w0,w1,w2,w3,w4,rfl⟩:=len5 hX.G.len
  obtain ⟨z0,z1,z2,z3,z4⟩:=all5 hX.F.one
  have ltA:=hX.ltA
  have ltF:=hX.ltF
  have hlo:=hX.hlo
  have hbb:=hX.hb
  have lrf:=hX.lrf
  have lra:=hX.lra
  have rfP:rf ≠ P:=fun e=>by rw [e] at lrf;omega
  have raP:ra ≠ P:=fun e=>by rw [e] at lra;omega
  have hrr:=hX.ne
  have lof:=hX.lo_of (q:=rf) (by omega)
  have loa:=hX.lo_of (q:=ra) (by omega)
  have e1:(rf == H.next)=false:=ne_beq (by omega)
  have e2:(rf == H.next + 1)=false:=ne_beq (by omega)
  have e3:(rf == H.next + 2)=false:=ne_beq (by omega)
  have e4:(H.next == rf)=false:=ne_beq (by omega)
  have e5:(rf == P)=false:=ne_beq rfP
  have e6:(P == rf)=false:=ne_beq (Ne.symm rfP)
  have e7:(P == H.next)=false:=ne_beq (by omega)
  have e8:(P == H.next + 1)=false:=ne_beq (by omega)
  have e9:(ra == H.next)=false:=ne_beq (by omega)
  have e10:(ra == H.next + 1)=false:=ne_beq (by omega)
  have q1:¬ h=1:=by omega
  have q2:¬ h=2:=by omega
  have q3:¬ h=3:=by omega
  have q4:¬ h=4:=by omega
  have q5:¬ h=5:=by omega
  have q6:¬ h=6:=by omega
  have q7:¬ h=7:=by omega
  have q8:¬ h=8:=by omega
  have q9:¬ h=9:=by omega
  have q10:¬ h=10:=by omega
  have q11:¬ h=11:=by omega
  have q17:¬ h=17:=by omega
  have q18:¬ h=18:=by omega
  obtain ⟨N,hN⟩:∃ N,f.body.length=N:=⟨_,rfl⟩
  have hNl:N < 2 ^ 30:=by have h1:=stmtsSz_len f.body;simp only [Fu.sz] at fs;omega
  have hlen:∀ H,lenAt Try.prog H 36 bf=some (.int .i64 N):=fun H=>by have:=hX.F.bo.len (P:=Try.prog) (H':=H) Try.underlying36;rw [List.length_map,hN] at this;exact this
  obtain ⟨o1,o2⟩:=hX.F.bo.one
  have hq2:(2:Int) ≠ 0:=by decide
  have kpn:∀ n:Int,(0:Int) < N → ∀ H,WpCall Try.prog (cfgN pls lG) 16 [.int .i64 n,.int .i64 (N:Int)] H fun v H'=>v=.int .i64 (pickG n N) ∧ H'=H:=fun n h H=>pick_en hG.pick n N (by omega) H
  rcases hi with rfl|rfl
  all_goals
    simp only [Nat.mul_zero,Nat.mul_one] at k8
    first|have gf:=hX.gf0|have gf:=hX.gf1
    dsimp only [mpBody,scB,scL,scR,code12]
    repeat' (first
       | (apply Rx.nl ?_;clear hK K)|apply Ry.o ?_|(apply Ry.call ?_;first|refine Rx.k (kpn _ (by omega) _) ?_)|(apply Ry.cd (fun hb hbp=>?_) (fun hb hbp=>?_) <;> try (cases hb;done))|apply Wp.seq ?_|(apply Wp.ops' fun K hK=>?_)|(apply Rx.dT 50 [(3,14),(3,16),(8,14),(11,14)] fun K hK=>?_)|(apply Rx.nq ?_;try intro _)|(apply Rx.nt ?_ ?_ <;> clear hK K)|apply WpT.step ?_|apply WpT.step0 rfl ?_|apply Wp.block ?_|apply Rx.sk ?_)
    all_goals (try exact ⟨rfl,eE,eE,MutI.of hX hPt ltP gp old (by omega) (by omega) (by omega) fn gn⟩)
    all_goals
      have hNp:0 < N:=by omega
      obtain ⟨k1,rfl⟩:∃ k1,N=k1 + 1:=⟨N - 1,by omega⟩
      obtain ⟨q0,imm0,rows,rfl,s0,l0,g0,i0,hrows⟩:∃ q imm rows,bf=.sl q 0 (k1 + 1) 17 ∧ pt q=b + 2 ∧ q < H.next ∧ H.get q=some (.cells rows.flatten imm true) ∧ imm ≤ rows.flatten.length ∧ RowsW (fun k=>pt k=b + 2 ∧ k ≠ q) 14 H 17 rows (f.body.map St.cells):=by
        rcases hX.F.bo with ⟨_,e⟩|⟨q,imm,rows,e,h1,h2,h3,h4,h5⟩
        · have:=congrArg List.length e;rw [List.length_map,hN] at this;simp at this
        · exact ⟨q,imm,rows,by rw [e,show rows.length=(f.body.map St.cells).length from All2.len h5,List.length_map,hN],h1,h2,h3,h4,h5⟩
      have hrl:rows.length=k1 + 1:=by rw [show rows.length=(f.body.map St.cells).length from All2.len hrows,List.length_map,hN]
      have hr17:=RowsW.len hrows
      have hfl:rows.flatten.length=(k1 + 1) * 17:=by rw [rows_len hr17,hrl]
      have hone:=rows_one hrows
      have e11:(q0 == H.next)=false:=ne_beq (by omega)
      have hx:srcCells (H.alloc (.cells [] 0 true)) 17 (.sl q0 0 (k1 + 1) 17)=some (k1 + 1,rows.flatten):=by
        have:=src_sl (H:=H.alloc (.cells [] 0 true)) (cs:=rows.flatten) (r:=q0) (o:=0) (n:=k1 + 1) (z:=17) (s:=17) (by rw [alloc_old l0];exact g0) (by simp [hfl])
        rw [this,List.drop_zero,List.take_of_length_le (by omega)]
      have a1:=app_cat (P:=Try.prog) (t:=36) Try.underlying36 sz46 bt46 zStmt (by rfl) (by kernel_rfl) (H:=H.alloc (.cells [] 0 true)) (q:=H.next) (m:=0) (k:=k1) (cs:=[]) (row:=rows.flatten) (v:=.sl q0 0 (k1 + 1) 17) (by rw [Hp.get_alloc,if_pos rfl]) rfl hx hone (by rw [show maxRoom=70368744177664 from rfl];omega) (by rw [show maxRoom=70368744177664 from rfl];omega)
      generalize hH4:((H.alloc (.cells [] 0 true)).kill H.next).alloc (.cells ([] ++ rows.flatten) 0 true)=H4 at a1
      have n4:H4.next=H.next + 2:=by rw [← hH4];rfl
      have o4:∀ q,q < H.next → H4.get q=H.get q:=fun q h1=>by rw [← hH4,Hp.get_alloc,if_neg (by simp only [Hp.next_kill,Hp.next_alloc];omega),Hp.get_kill,if_neg (by omega),alloc_old h1]
      have g4:H4.get (H.next + 1)=some (.cells rows.flatten 0 true):=by rw [← hH4,Hp.get_alloc,if_pos (by rfl)];rfl
      clear hH4
      simp only [Hp.next_alloc,Nat.zero_add] at a1
      have gf4:=(o4 rf ltF).trans gf
      generalize hq:(pickG (w64 (a.tdiv 2)) ((k1 + 1:Nat):Int))=qn at *
      have hqr:=pickG_range (n:=w64 (a.tdiv 2)) (m:=((k1 + 1:Nat):Int)) (by omega) (by omega)
      rw [hq] at hqr
      obtain ⟨qi,rfl⟩:∃ qi:Nat,qn=(qi:Int):=⟨qn.toNat,by omega⟩
      have hqi:qi < k1 + 1:=by omega
      have hix:∀ r,indexAddrA Try.prog 36 (.sl r 0 (k1 + 1) 17) (.int .i64 (qi:Int))=some (.ptr r (qi * 17)):=fun r=>by
        have:=ixSm r (k1 + 1) (n:=(qi:Int)) (by omega) (by omega)
        rw [Int.toNat_natCast] at this;exact this
      have hrq:rows[qi]?=some rows[qi]:=List.getElem?_eq_getElem (by omega)
      have hbq:f.body[qi]?=some f.body[qi]:=List.getElem?_eq_getElem (by omega)
      have hag:=agg_row hr17 hrq
      have e12:(H.next + 1 == rf)=false:=ne_beq (by omega)
      have hle:qi * 17 + 17 ≤ rows.flatten.length:=by omega
      repeat' (first
         | (apply Rx.nl ?_;clear hK K)|apply Rx.o ?_|apply Rx.on ?_|apply Wp.seq ?_|(apply Wp.ops' fun K hK=>?_)|(apply Rx.dT 50 [(3,14),(3,16),(8,14),(11,14)] fun K hK=>?_)|(apply Rx.nq ?_;try intro _)|(apply Rx.nt ?_ ?_ <;> clear hK K)|apply WpT.step ?_|apply WpT.step0 rfl ?_|apply Wp.block ?_|apply Rx.sk ?_)
      refine WpL.call rfl eVk eAk ?_;simp only [List.cons_append,List.nil_append,List.append_nil]
      have hrowq:CellsW (fun q=>pt q=b + 2 ∧ q ≠ q0) 14 H rows[qi] (f.body[qi]).cells:=(All2.get hrows hrq (by rw [List.getElem?_map,hbq];rfl)).2
      generalize hH5:Hp.set H4 rf _=H5
      have n5:H5.next=H.next + 2:=by rw [← hH5];exact n4
      have o5:∀ q,q < H.next → q ≠ rf → H5.get q=H.get q:=fun q h1 h2=>by rw [← hH5,Hp.get_set,if_neg h2,o4 q h1]
      have g5:H5.get (H.next + 1)=some (.cells rows.flatten 0 true):=by rw [← hH5,Hp.get_set,if_neg (by omega)];exact g4
      have gf5:=show H5.get rf=some _ by rw [← hH5,Hp.get_set,if_pos rfl]
      have hrow5:=hrowq.keep2 (S':=fun q=>pt q=b + 2 ∧ q < H.next) (fun k h1 h2=>⟨h2.1,h1⟩) (by omega:H.next ≤ H5.next) (fun k h1 h2=>o5 k h2 (fun e=>by rw [e] at h1;omega))
      have hbs:=stmtsSz_mem (List.getElem_mem (by omega:qi < f.body.length))
      refine WpCall.mono ?_ (mutSM hG.ms hG.msi (n:=14) (by omega) hrow5 (by simp only [Fu.sz] at fs;omega) k a)
      rintro _ H6 ⟨rfl,hI⟩
      have g6:=(hI.out (H.next + 1) (fun h=>by omega)).trans g5
      have gf6:=(hI.out rf (fun h=>by omega)).trans gf5
      have n6:=hI.next
      have hes:=mutS_sz f.body[qi] k a
      generalize mutS f.body[qi] k a=e6 at *
      rw [St.cells_eq]
      dsimp only [setO]
      clear hfl
      repeat' (first
         | (apply Rx.nl ?_;clear hK K)|apply Rx.o ?_|apply Rx.on ?_|apply Wp.seq ?_|(apply Wp.ops' fun K hK=>?_)|(apply Rx.dT 50 [(3,14),(3,16),(8,14),(11,14)] fun K hK=>?_)|(apply Rx.nq ?_;try intro _)|(apply Rx.nt ?_ ?_ <;> clear hK K)|apply WpT.step ?_|apply WpT.step0 rfl ?_|apply Wp.block ?_|apply Rx.sk ?_)
      · exact eK
      have hsp:=flat_splice (w:=[.int .i64 e6.kind,.str e6.name,.str e6.to,.int .i64 e6.n,.int .i64 e6.at_.kind,.int .i64 e6.at_.n,.str e6.at_.name,.int .i64 e6.at_.op,.lst (e6.at_.kids.map Ex.cells),.int .i64 e6.value.kind,.int .i64 e6.value.n,.str e6.value.name,.int .i64 e6.value.op,.lst (e6.value.kids.map Ex.cells),.lst (e6.args.map Ex.cells),.lst (e6.thn.map St.cells),.lst (e6.els.map St.cells)]) rfl hr17 (i:=qi) (by omega)
      rw [splice_eq] at hsp
      generalize hH7:Hp.set H6 (H.next + 1) _=H7
      have n7:H7.next=H.next + 2:=by rw [← hH7,Hp.next_set];omega
      have o7:∀ q,q ≠ H.next + 1 → H7.get q=H6.get q:=fun q h1=>by rw [← hH7,Hp.get_set,if_neg h1]
      have g7:H7.get (H.next + 1)=some (.cells (rows.set qi e6.cells).flatten 0 true):=by rw [← hH7,Hp.get_set,if_pos rfl,St.cells_eq];exact congrArg (fun c=>some (HB.cells c 0 true)) hsp
      clear hH7 hsp hH5
      refine ⟨rfl,eE,eE,MutI.upd hX hPt ltP gp old (hX.setB (H':=H7) (n':=14) (bf':=.sl (H.next + 1) 0 (k1 + 1) 17) (f.body.set qi e6) ?_ (by omega) ?_ ?_ ?_) ?_ ?_ ?_ (by omega) ?_ (by omega) fn gn⟩
      · omega
      · intro q _ h1 h2 h3;rw [o7 q (by omega),hI.out q (fun h=>h3 h.1),o5 q h1 h2]
      · rw [o7 rf (by omega),gf6];rfl
      · refine .inr ⟨H.next + 1, 0, rows.set qi e6.cells, by rw [List.length_set, hrl], if_pos (by omega), by omega, g7, Nat.zero_le _, ?_⟩
        have hr7:RowsW (fun k=>(if H.next ≤ k then b + 2 else pt k)=b + 2 ∧ k ≠ H.next + 1) 14 H7 17 rows (f.body.map St.cells):=by
          have h5:=hrows.keep2 (S':=fun k=>pt k=b + 2 ∧ k < H.next) (fun k h1 h2=>⟨h2.1,h1⟩) (by omega:H.next ≤ H5.next) (fun k h1 h2=>o5 k h2 (fun e=>by rw [e] at h1;omega))
          have h6:=h5.icy (H':=H6) (by omega) fun k _ _=>hI.same k
          exact h6.keep2 (fun k h1 h2=>⟨by rw [if_neg (by omega)];exact h2.1,by omega⟩) (by omega) fun k h1 h2=>o7 k (by have:=h1.2;omega)
        rw [List.map_set]
        exact All2.set hr7 ⟨St.clen _,stW e6⟩
      · show (if _ then _ else _)=0;rw [if_neg (by omega)];exact hPt
      · omega
      · intro q h1 h2;rw [o7 q (by omega),hI.out q (fun h=>by omega),o5 q h1 (fun e=>by rw [e] at h2;omega)]
      · have hss := stmtsSz_set f.body qi e6 (by omega)
        simp only [Fu.sz] at fs ⊢;omega
end Go.Proofs.Ytackdnelcpbfjaa
