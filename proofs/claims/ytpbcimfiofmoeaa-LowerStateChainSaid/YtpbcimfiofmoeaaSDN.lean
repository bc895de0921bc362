/- Parts: P4b, P4c, P4d, P4h. -/
import Derived.Test.YtpbcimfiofmoeaaSDM
set_option linter.unusedSimpArgs false
set_option linter.unusedVariables false
set_option linter.unusedSectionVars false
set_option linter.defProp false
set_option maxHeartbeats 32000000
namespace Go.Proofs.Ytpbcimfiofmoeaa
set_option maxRecDepth 20000
set_option maxRecDepth 20000
open Go Go.Ab
namespace tyP4b
def tyF:=And.intro @tq2 (And.intro @tq3 (And.intro @tq4 (And.intro @tq9 (And.intro @za9 (And.intro @zba (And.intro @zau (And.intro @zbw (@tq162))))))))
end tyP4b
open tyP4b
noncomputable def code80:{ c:SC // slim 111 (Try.f80.body.getD .skip)=c }:=by
 refine⟨?_,?_⟩
 rotate_left
 ·simp only[Try.f80,Option.getD_some,slim,zZ,zS,z6,z7,Nat.blt,Nat.ble]
  rfl
mutual
theorem zlK:∀ (x:Ex) (d:Int),zcd (fun x _=>wfX x) x d=wfE x
 | .mk k n s o ks,d=>by rw[zcd,wfE,zjD ks,Bool.and_comm]
theorem zjD:∀ (l:List Ex) (d:Int),jM (fun x _=>wfX x) l d=zaJ l
 | [],_=>rfl
 | x::l,d=>by rw[jM,zaJ,zlK x,zjD l]
end
theorem znc {l:List En} (hv:∀ ar,yQ l 76 ar=enPN.sp ar) (ho:∀ ar,yQ l 113 ar=enPO.sp ar) (hp:(∀ ar,yQ l 79 ar=none)∧zev l 79=false) (hq:(∀ ar,yQ l 78 ar=none)∧zev l 78=false)
 (x:Ex) (hx:x.sz < 2 ^ 60) (H:Hp):zr Try.prog (zK pls l) 78 [.agg x.cells,.int .i64 0,.clo 79 []] H fun v H'=>v=.bool (wfE x)∧FrB 0 H H':=by
 have hI:zgW 0 fun _:Hp=>True:=fun _ _ _ _=>trivial
 refine zr.mono ?_ (za8 (yJ hq.1 hq.2) hI (zre hv ho hp hI) (x.sz+1) x (Nat.lt_succ_self _) 0 H hx (Nat.zero_le _) trivial)
 rintro v H' ⟨rfl,h2,_⟩
 exact⟨by rw[zlK],h2⟩
def zci (x:Ex) (w:Bool):Bool:=bif w then wfE x else zeroE x
noncomputable def zrf:List En:=[enPN,enPO,enPZ]
theorem zrg (ρ:Nat→Int):zdC Try.prog ρ zrf:=⟨zof ρ,zog ρ,zve ρ,trivial⟩
theorem zi8 (ρ:Nat→Int) (x:Ex) (w:Bool) (hx:x.sz < 2 ^ 60):Con Try.prog ρ 116 [.agg x.cells,.bool w] (.bool (zci x w)):=jX fit (pls:=pls) (zrg ρ) (.cons (.agg x.pure) (.cons (.bool _) .nil)) (.bool _) (by
 have hw:Plain (zK pls zrf) 116:=yJ (fun _=>rfl) rfl
 have kz:∀ y:Ex,∀ H,zr Try.prog (zK pls zrf) 135 [.agg y.cells] H fun v H'=>v=.bool (zeroE y)∧H'=H:=fun y H=>yr (enc:=exE) (out:=fun x=>.bool (zeroE x)) zhm (x:=y) rfl trivial
 cases w
 ·refine zj (M:=10) (rs:=[.tmp 4]) (hw.call _) hw.ice hw.froz Try.func116 rfl rfl zoe.2 rfl ?_;dsimp only[zoe,zO,Nat.reduceAdd]
  repeat' (first
   | (apply Rx.nl ?_;clear hK K)|apply Rx.o ?_|(apply Rx.call ?_;first|refine zaF (kz _ _) ?_)|(apply Rx.cd (fun hb hbp=>?_) (fun hb hbp=>?_)<;>try (cases hb;done))|apply Wp.seq ?_|(apply zd fun K hK=>?_)|apply zh ?_|apply Rx.rt ?_)
  all_goals (refine⟨eI,_,eR,?_⟩;try simp only[zp])
  rfl
 ·refine zj (M:=10) (rs:=[.tmp 4]) (hw.call _) hw.ice hw.froz Try.func116 rfl rfl zoe.2 rfl ?_;dsimp only[zoe,zO,Nat.reduceAdd]
  repeat' (first
   | (apply Rx.nl ?_;clear hK K)|apply Rx.o ?_|(apply Rx.cd (fun hb hbp=>?_) (fun hb hbp=>?_)<;>try (cases hb;done))|apply Wp.seq ?_|(apply zd fun K hK=>?_)|apply zh ?_|apply Rx.rt ?_)
  refine WpL.call rfl eVk eAk ?_;simp only[List.cons_append,List.nil_append,List.append_nil]
  refine zr.mono ?_ (znc (fun _=>rfl) (fun _=>rfl) ⟨fun _=>rfl,rfl⟩ ⟨fun _=>rfl,rfl⟩ x hx _)
  rintro v H ⟨rfl,_⟩
  dsimp only[zA]
  repeat' (first
   | (apply Rx.nl ?_;clear hK K)|apply Rx.o ?_|(apply Rx.cd (fun hb hbp=>?_) (fun hb hbp=>?_)<;>try (cases hb;done))|apply Wp.seq ?_|(apply zd fun K hK=>?_)|apply zh ?_|apply Rx.rt ?_)
  all_goals (refine⟨eI,_,eR,?_⟩;try simp only[zp])
  rfl)
def fld (k:Int) (i:Nat):Bool:=(zna k).getD i false
theorem fld_eq (k:Int):(zna k).map AV.bool=[.bool (fld k 0),.bool (fld k 1),.bool (fld k 2),.bool (fld k 3),.bool (fld k 4),.bool (fld k 5),.bool (fld k 6),.bool (fld k 7)]:=by
 have h:∃ a b c d e f g h,zna k=[a,b,c,d,e,f,g,h]:=by
  unfold zna
  repeat' split
  all_goals exact⟨_,_,_,_,_,_,_,_,rfl⟩
 obtain⟨a,b,c,d,e,f,g,h,e1⟩:=h
 simp only[fld,e1];rfl
def ziI (x:St):Bool:=
 zbq x.kind&&zcB x.name (fld x.kind 0)&&zcB x.to (fld x.kind 1)&&zci x.at_ (fld x.kind 3)&&zci x.value (fld x.kind 4) &&
 !decide (x.n < 0) && !decide (1000000 < x.n)&&(fld x.kind 2||decide (x.n=0))&&(fld x.kind 5 || !decide ((0:Int) < x.args.length))&&(fld x.kind 6 || !decide ((0:Int) < x.thn.length))&&(fld x.kind 7 || !decide ((0:Int) < x.els.length))&&zaJ x.args
def badB (x:St):Bool:=decide (x.n < 0)||decide (1000000 < x.n)||(!fld x.kind 2 && !decide (x.n=0))||(!fld x.kind 5&&decide ((0:Int) < x.args.length))||(!fld x.kind 6&&decide ((0:Int) < x.thn.length))||(!fld x.kind 7&&decide ((0:Int) < x.els.length))
noncomputable def enPF:En:=⟨114,false,spP (fun _=>True) (fun n:Int=>[.int .i64 n]) fldA⟩
theorem zvf (ρ:Nat→Int):zbI Try.prog ρ enPF:=jL fun x _=>znb ρ x
def sbE (x:List UInt8×Bool):List AV:=[.str x.1,.bool x.2]
theorem zvg (x y:List UInt8×Bool) (h:sbE x=sbE y):x=y:=by
 simp only[sbE,List.cons.injEq,AV.str.injEq,AV.bool.injEq,and_true]at h
 exact Prod.ext h.1 h.2
noncomputable def enPM:En:=⟨115,false,spP (fun x=>x.1.length < 2 ^ 60) sbE fun x=>.bool (zcB x.1 x.2)⟩
theorem zvh (ρ:Nat→Int):zbI Try.prog ρ enPM:=jL fun x hx=>zm9 ρ x.1 x.2 hx
def ebE (x:Ex×Bool):List AV:=[.agg x.1.cells,.bool x.2]
theorem zvi (x y:Ex×Bool) (h:ebE x=ebE y):x=y:=by
 simp only[ebE,List.cons.injEq,AV.agg.injEq,AV.bool.injEq,and_true]at h
 exact Prod.ext (Ex.inj h.1) h.2
noncomputable def enPX:En:=⟨116,false,spP (fun x=>x.1.sz < 2 ^ 60) ebE fun x=>.bool (zci x.1 x.2)⟩
theorem zvj (ρ:Nat→Int):zbI Try.prog ρ enPX:=jL fun x hx=>zi8 ρ x.1 x.2 hx
noncomputable def enPS:En:=⟨77,false,spP (fun l=>jd l < 2 ^ 60) (fun l:List (List UInt8)=>[je l]) fun l=>.bool (l.all yx)⟩
theorem zvk (ρ:Nat→Int):zbI Try.prog ρ enPS:=jL fun x hx=>zm8 ρ x hx
theorem zvl (x y:List (List UInt8)) (h:([je x]:List AV)=[je y]):x=y:=by
 simp only[List.cons.injEq,AV.lst.injEq,and_true]at h
 exact zfC h
noncomputable def zeM:List En:=[enPN,enPO,enPF,enPM,enPX,enPS]
theorem zrh (ρ:Nat→Int):zdC Try.prog ρ zeM:=⟨zof ρ,zog ρ,zvf ρ,zvh ρ,zvj ρ,zvk ρ,trivial⟩
theorem fldv1:fld 1 0=true∧fld 1 1=false∧fld 1 2=false∧fld 1 3=false∧fld 1 4=true∧fld 1 5=false∧fld 1 6=false∧fld 1 7=false∧zbq 1=true:=by refine⟨rfl,rfl,rfl,rfl,rfl,rfl,rfl,rfl,rfl⟩
theorem fldv2:fld 2 0=true∧fld 2 1=false∧fld 2 2=false∧fld 2 3=true∧fld 2 4=true∧fld 2 5=false∧fld 2 6=false∧fld 2 7=false∧zbq 2=true:=by refine⟨rfl,rfl,rfl,rfl,rfl,rfl,rfl,rfl,rfl⟩
theorem fldv3:fld 3 0=false∧fld 3 1=false∧fld 3 2=false∧fld 3 3=false∧fld 3 4=true∧fld 3 5=false∧fld 3 6=true∧fld 3 7=true∧zbq 3=true:=by refine⟨rfl,rfl,rfl,rfl,rfl,rfl,rfl,rfl,rfl⟩
theorem fldv4:fld 4 0=false∧fld 4 1=false∧fld 4 2=false∧fld 4 3=false∧fld 4 4=true∧fld 4 5=false∧fld 4 6=true∧fld 4 7=false∧zbq 4=true:=by refine⟨rfl,rfl,rfl,rfl,rfl,rfl,rfl,rfl,rfl⟩
theorem fldv5:fld 5 0=false∧fld 5 1=false∧fld 5 2=false∧fld 5 3=false∧fld 5 4=true∧fld 5 5=false∧fld 5 6=false∧fld 5 7=false∧zbq 5=true:=by refine⟨rfl,rfl,rfl,rfl,rfl,rfl,rfl,rfl,rfl⟩
theorem fldv6:fld 6 0=true∧fld 6 1=true∧fld 6 2=false∧fld 6 3=false∧fld 6 4=false∧fld 6 5=true∧fld 6 6=false∧fld 6 7=false∧zbq 6=true:=by refine⟨rfl,rfl,rfl,rfl,rfl,rfl,rfl,rfl,rfl⟩
theorem fldv7:fld 7 0=false∧fld 7 1=false∧fld 7 2=true∧fld 7 3=false∧fld 7 4=false∧fld 7 5=false∧fld 7 6=false∧fld 7 7=false∧zbq 7=true:=by refine⟨rfl,rfl,rfl,rfl,rfl,rfl,rfl,rfl,rfl⟩
set_option maxRecDepth 100000 in
theorem zri:ziG (zK pls zeM) 0 (fun (_:Unit) _=>True) 80 [] fun x _ s=>(ziI x,s):=by
 intro x d s H hz _ _
 have hw:Plain (zK pls zeM) 80:=yJ (fun _=>rfl) rfl
 have kf:∀ k H,zr Try.prog (zK pls zeM) 114 [.int .i64 k] H fun v H'=>v=.tup [.agg [.bool (fld k 0),.bool (fld k 1),.bool (fld k 2),.bool (fld k 3),.bool (fld k 4),.bool (fld k 5),.bool (fld k 6),.bool (fld k 7)],.bool (zbq k)]∧H'=H:=fun k H=>by
  have:=yr (P:=Try.prog) (pls:=pls) (l:=zeM) (enc:=fun n:Int=>[.int .i64 n]) (ok:=fun _=>True) (out:=fldA) zlu (g:=114) (x:=k) rfl trivial (H:=H)
  unfold fldA at this
  rw[fld_eq]at this
  exact this
 have km:∀ (s:List UInt8) (w:Bool),s.length < 2 ^ 60→∀ H,zr Try.prog (zK pls zeM) 115 [.str s,.bool w] H fun v H'=>v=.bool (zcB s w)∧H'=H:=fun s w h H=>yr (enc:=sbE) (out:=fun x=>.bool (zcB x.1 x.2)) zvg (x:=(s,w)) rfl h
 have kx:∀ (y:Ex) (w:Bool),y.sz < 2 ^ 60→∀ H,zr Try.prog (zK pls zeM) 116 [.agg y.cells,.bool w] H fun v H'=>v=.bool (zci y w)∧H'=H:=fun y w h H=>yr (enc:=ebE) (out:=fun x=>.bool (zci x.1 x.2)) zvi (x:=(y,w)) rfl h
 have hsz:=x.sz_eq
 have hlen:=j7 x.args
 have hx0:∀ a b,Ab.extract (.tup [a,b]) 0=some a:=fun _ _=>rfl
 have hx1:∀ a b,Ab.extract (.tup [a,b]) 1=some b:=fun _ _=>rfl
 refine zj (M:=111) (rs:=[.tmp 4]) (hw.call _) hw.ice hw.froz Try.func80 rfl rfl code80.2 rfl ?_;dsimp only[code80,zO,Nat.reduceAdd]
 repeat' (first
  | (apply Rx.nl ?_;clear hK K)|apply Rx.o ?_|apply Rx.on ?_|(apply Rx.call ?_;first|refine zaF (kf _ _) ?_|refine zaF (km _ _ (by omega) _) ?_|refine zaF (kx _ _ (by omega) _) ?_)|apply Rx.gu ?_|(apply Rx.gd (fun hg hgp=>?_) (fun hg hgp=>?_)<;>try (cases hg;done))|apply Wp.seq ?_|(apply zd fun K hK=>?_)|apply Wp.block ?_|apply zh ?_|apply Rx.rt ?_|apply zk ?_)
 all_goals (first|(refine Rx.cd (t:=true) (h1:=fun _ _=>?_) (h2:=fun hzz _=>?_)<;>try (cases hzz;done))|skip)
 all_goals
  repeat' (first
   | (apply Rx.nl ?_;clear hK K)|apply Rx.o ?_|apply Rx.on ?_|apply Rx.gu ?_|(apply Rx.gd (fun hg hgp=>?_) (fun hg hgp=>?_)<;>try (cases hg;done))|apply Wp.seq ?_|(apply zd fun K hK=>?_)|apply Wp.block ?_|apply zh ?_|apply Rx.rt ?_|apply zk ?_)
 all_goals (first|(refine⟨eI,_,eR,?_⟩;(try simp only[zp]);refine⟨by rw[ziI];(try simp only[Bool.not_eq_true',Bool.not_eq_false']at *);simp only[*,decide_true,decide_false,Bool.false_or,Bool.or_false,Bool.true_or,Bool.or_true,Bool.false_and,Bool.and_false,Bool.true_and,Bool.and_true,Bool.not_true,Bool.not_false,if_true,if_false,Int.reduceEq],(((FrB.refl _ _).alloc _).alloc _).set (.inl (by(try simp only[zb]);omega)) _,trivial⟩;done)|skip)
 have hfr:FrB 0 H (((H.alloc (.cells x.cells 0 true)).alloc (.cells [.bool false,.bool false,.bool false,.bool false,.bool false,.bool false,.bool false,.bool false] 0 true)).set (H.next+1) (.cells [.bool (fld x.kind 0),.bool (fld x.kind 1),.bool (fld x.kind 2),.bool (fld x.kind 3),.bool (fld x.kind 4),.bool (fld x.kind 5),.bool (fld x.kind 6),.bool (fld x.kind 7)] 0 true)):=(((FrB.refl _ _).alloc _).alloc _).set (.inl (by omega)) _
 refine zqy [2,4,5,48] fun E' hcE=>?_
 (try simp only[zi,zl,and_true,sB,sO,Nat.reduceBEq,Nat.reduceAdd,Nat.reduceLeDiff,tyF, *]at hcE)
 generalize hHb:Hp.set _ (H.next+1) _=Hb at hfr ⊢
 have gb:Hb.get H.next=some (.cells x.cells 0 true):=by rw[← hHb,Hp.get_set,if_neg (by omega),za,if_neg (by simp only[zb];omega),za,if_pos rfl]
 have gf:Hb.get (H.next+1)=some (.cells [.bool (fld x.kind 0),.bool (fld x.kind 1),.bool (fld x.kind 2),.bool (fld x.kind 3),.bool (fld x.kind 4),.bool (fld x.kind 5),.bool (fld x.kind 6),.bool (fld x.kind 7)] 0 true):=by rw[← hHb,Hp.get_set,if_pos rfl]
 have nb:H.next+2≤Hb.next:=by rw[← hHb];exact Nat.le_refl _
 clear hHb
 refine Rx.cd (h1:=fun hb hbp=>?_) (h2:=fun hb hbp=>?_)
 ·repeat' (first
   | (apply Rx.nl ?_;clear hK K)|apply Rx.o ?_|apply Rx.on ?_|apply Rx.gu ?_|(apply Rx.gd (fun hg hgp=>?_) (fun hg hgp=>?_)<;>try (cases hg;done))|apply Wp.seq ?_|(apply zd fun K hK=>?_)|apply Wp.block ?_|apply zh ?_|apply Rx.rt ?_|apply zk ?_)
  all_goals (refine⟨eI,_,eR,?_⟩;try simp only[zp])
  refine⟨by rw[ziI];(try simp only[Bool.not_eq_true',Bool.not_eq_false']at *);simp only[*,decide_true,decide_false,Bool.false_or,Bool.or_false,Bool.true_or,Bool.or_true,Bool.false_and,Bool.and_false,Bool.true_and,Bool.and_true,Bool.not_true,Bool.not_false,if_true,if_false,Int.reduceEq],hfr,trivial⟩
 refine Wp.skip ?_
 dsimp only[zb9,zca]
 refine Wp.seq ?_
 first
 | refine zd fun K hK0=>?_
 | (simp only[zZ,zS,z6,z7,Nat.blt,Nat.ble];refine zd fun K hK0=>?_)
 | (refine Wp.seq ?_;refine zd fun K hK0=>?_)
 have hK:∀ E2 H2,(E2.at 2=.ptr H.next 0∧E2.at 4=.bool false∧E2.at 99=.bool (badB x)∧H2=Hb)→K E2 H2:=by
  rintro E2 H2 ⟨k2,k4,k99,rfl⟩
  apply hK0
  clear hK0 K
  dsimp only[zb9,zca]
  have hgood:(zbq x.kind&&zcB x.name (fld x.kind 0)&&zcB x.to (fld x.kind 1)&&zci x.at_ (fld x.kind 3)&&zci x.value (fld x.kind 4))=true:=by(try simp only[Bool.not_eq_true',Bool.not_eq_false']at *);simp only[*,decide_true,decide_false,Bool.false_or,Bool.or_false,Bool.true_or,Bool.or_true,Bool.false_and,Bool.and_false,Bool.true_and,Bool.and_true,Bool.not_true,Bool.not_false,if_true,if_false,Int.reduceEq]
  have hsp:ziI x=(!badB x&&zaJ x.args):=by
   have e:ziI x=((zbq x.kind&&zcB x.name (fld x.kind 0)&&zcB x.to (fld x.kind 1)&&zci x.at_ (fld x.kind 3)&&zci x.value (fld x.kind 4))&&(!badB x&&zaJ x.args)):=by
    simp only[ziI,badB,Bool.not_or,Bool.not_and,Bool.not_not,Bool.and_assoc]
   rw[e,hgood,Bool.true_and]
  repeat' (first
   | (apply Rx.nl ?_;clear hK K)|apply Rx.o ?_|apply Rx.on ?_|apply Rx.gu ?_|(apply Rx.gd (fun hg hgp=>?_) (fun hg hgp=>?_)<;>try (cases hg;done))|(apply Rx.cd (fun hb hbp=>?_) (fun hb hbp=>?_)<;>try (cases hb;done))|apply Wp.seq ?_|(apply zd fun K hK=>?_)|apply Wp.block ?_|apply zh ?_|apply Rx.rt ?_|apply zk ?_)
  ·all_goals (refine⟨eI,_,eR,?_⟩;try simp only[zp])
   refine⟨by rw[hsp];(try simp only[Bool.not_eq_true',Bool.not_eq_false']at *);simp only[*,decide_true,decide_false,Bool.false_or,Bool.or_false,Bool.true_or,Bool.or_true,Bool.false_and,Bool.and_false,Bool.true_and,Bool.and_true,Bool.not_true,Bool.not_false,if_true,if_false,Int.reduceEq],hfr,trivial⟩
  refine yd [2,4,101,102] [] 103 x.args.length (fun i E H2=>zaJ x.args=zaJ (x.args.drop i)∧FrB 0 H H2) eE ⟨by simp,hfr⟩ ?_
  rintro i E H3 hi hcE hrH hnH hsI ⟨hJ,hf2⟩
  (try simp only[zi,zl,and_true,sB,sO,Nat.reduceBEq,Nat.reduceAdd,Nat.reduceLeDiff,tyF, *]at hcE)
  (try simp only[zi,zl,and_true,sB,sO,Nat.reduceBEq,Nat.reduceAdd,Nat.reduceLeDiff,tyF, *]at hrH)
  (try simp only[zb,ze,zH,Nat.zero_add,Nat.reduceAdd]at hnH)
  repeat' (first
   | (apply Rx.nl ?_;clear hK K)|apply Rx.o ?_|apply Rx.on ?_|apply Rx.gu ?_|(apply Rx.gd (fun hg hgp=>?_) (fun hg hgp=>?_)<;>try (cases hg;done))|(apply Rx.cd (fun hb hbp=>?_) (fun hb hbp=>?_)<;>try (cases hb;done))|apply Wp.seq ?_|(apply zd fun K hK=>?_)|apply Wp.block ?_|apply zh ?_|apply Rx.rt ?_|apply zk ?_)
  ·have hlt:i < x.args.length:=by simpa using hb
   have hgx:x.args[i]?=some x.args[i]:=List.getElem?_eq_getElem hlt
   have hsm:=jQ (List.getElem_mem hlt)
   have hdr:zaJ (x.args.drop i)=(wfE x.args[i]&&zaJ (x.args.drop (i+1))):=by rw[List.drop_eq_getElem_cons hlt];rfl
   repeat' (first
    | (apply Rx.nl ?_;clear hK K)|apply Rx.o ?_|apply Rx.on ?_|apply Rx.gu ?_|(apply Rx.gd (fun hg hgp=>?_) (fun hg hgp=>?_)<;>try (cases hg;done))|(apply Rx.cd (fun hb hbp=>?_) (fun hb hbp=>?_)<;>try (cases hb;done))|apply Wp.seq ?_|(apply zd fun K hK=>?_)|apply Wp.block ?_|apply zh ?_|apply Rx.rt ?_|apply zk ?_)
   refine WpL.call rfl eVk eAk ?_;simp only[List.cons_append,List.nil_append,List.append_nil]
   refine zr.mono ?_ (znc (fun _=>rfl) (fun _=>rfl) ⟨fun _=>rfl,rfl⟩ ⟨fun _=>rfl,rfl⟩ x.args[i] (by omega) _)
   rintro v H4 ⟨rfl,hf4⟩
   dsimp only[zA]
   have hf5:FrB 0 H H4:=hf2.trans ((((FrB.refl _ _).alloc _).set (.inl (Nat.le_refl _)) _).trans hf4)
   have n4:=hf4.next
   simp only[ze,zb]at n4
   repeat' (first
    | (apply Rx.nl ?_;clear hK K)|apply Rx.o ?_|apply Rx.on ?_|apply Rx.gu ?_|(apply Rx.gd (fun hg hgp=>?_) (fun hg hgp=>?_)<;>try (cases hg;done))|(apply Rx.cd (fun hb hbp=>?_) (fun hb hbp=>?_)<;>try (cases hb;done))|apply Wp.seq ?_|(apply zd fun K hK=>?_)|apply Wp.block ?_|apply zh ?_|apply Rx.rt ?_|apply zk ?_)
   all_goals (first|(refine⟨eI,_,eR,?_⟩;(try simp only[zp]);refine⟨by rw[hsp,hJ,hdr];(try simp only[Bool.not_eq_true',Bool.not_eq_false']at *);simp only[*,decide_true,decide_false,Bool.false_or,Bool.or_false,Bool.true_or,Bool.or_true,Bool.false_and,Bool.and_false,Bool.true_and,Bool.and_true,Bool.not_true,Bool.not_false,if_true,if_false,Int.reduceEq],hf5,trivial⟩;done)|skip)
   refine⟨by omega,eL,eL,eN,(by simp only[sB,Nat.reduceBEq, *];exact zT (n:=x.args.length) (by omega) (by omega)),?_⟩
   exact⟨by rw[hJ,hdr];(try simp only[Bool.not_eq_true',Bool.not_eq_false']at *);simp only[*,decide_true,decide_false,Bool.false_or,Bool.or_false,Bool.true_or,Bool.or_true,Bool.false_and,Bool.and_false,Bool.true_and,Bool.and_true,Bool.not_true,Bool.not_false,if_true,if_false,Int.reduceEq],hf5⟩
  ·all_goals (refine⟨eI,_,eR,?_⟩;try simp only[zp])
   refine⟨by rw[hsp,hJ,show i=x.args.length by simp at hb;omega,List.drop_length];(try simp only[Bool.not_eq_true',Bool.not_eq_false']at *);simp only[zaJ, *,decide_true,decide_false,Bool.false_or,Bool.or_false,Bool.true_or,Bool.or_true,Bool.false_and,Bool.and_false,Bool.true_and,Bool.and_true,Bool.not_true,Bool.not_false,if_true,if_false,Int.reduceEq],hf2,trivial⟩
 clear hK0
 repeat' (first
  | (apply Rx.nl ?_;clear hK K)|apply Rx.o ?_|apply Rx.on ?_|apply Rx.gu ?_|(apply Rx.gd (fun hg hgp=>?_) (fun hg hgp=>?_)<;>try (cases hg;done))|apply Wp.seq ?_|(apply zd fun K hK=>?_)|apply Wp.block ?_|apply zh ?_|apply Rx.rt ?_|apply zk ?_)
 all_goals
  refine⟨eE,eE,?_,rfl⟩
  rw[badB]
  (try simp only[Bool.not_eq_true',Bool.not_eq_false']at *)
  simp only[sB,Nat.reduceBEq, *,decide_true,decide_false,Bool.false_or,Bool.or_false,Bool.true_or,Bool.or_true,Bool.false_and,Bool.and_false,Bool.true_and,Bool.and_true,Bool.not_true,Bool.not_false]
end Go.Proofs.Ytpbcimfiofmoeaa
namespace Go.Proofs.Ytpbcimfiofmoeaa
set_option maxRecDepth 20000
open Go Go.Ab
theorem zgr (n:Nat):(!decide ((0:Int) < n))=decide ((n:Int)=0):=by
 cases n with
 | zero=>rfl
 | succ n=>simp;omega
theorem rng0 (n:Int):(!decide (n < 0) && !decide (1000000 < n)&&decide (n=0))=decide (n=0):=by
 by_cases h:n=0
 ·subst h;rfl
 ·simp[h]
theorem neg0 (n:Int):(!decide (n < 0))=decide (0≤n):=by
 by_cases h:n < 0
 ·simp[h]
 ·simp[h];omega
theorem big0 (n:Int):(!decide (1000000 < n))=decide (n≤1000000):=by
 by_cases h:1000000 < n
 ·simp[h]
 ·simp[h];omega
theorem zvm (x:St):ziI x=zbg x:=by
 have hk:x.kind=1∨x.kind=2∨x.kind=3∨x.kind=4∨x.kind=5∨x.kind=6∨x.kind=7∨zbq x.kind=false:=by
  simp only[zbq,Bool.and_eq_false_iff,decide_eq_false_iff_not];omega
 rcases hk with hk|hk|hk|hk|hk|hk|hk|hk
 case inr.inr.inr.inr.inr.inr.inr=>
  have h:zbQ x=false:=by
   simp only[zbq,Bool.and_eq_false_iff,decide_eq_false_iff_not]at hk
   unfold zbQ
   rw[if_neg (by omega),if_neg (by omega),if_neg (by omega),if_neg (by omega),if_neg (by omega),if_neg (by omega),if_neg (by omega)]
  rw[ziI,zbg,hk,h]
  simp
 all_goals
  have hr:=rng0 x.n
  simp only[ziI,zbg,zbQ,hk,fldv1,fldv2,fldv3,fldv4,fldv5,fldv6,fldv7,zd3,zik,zcB,zci,cond_true,cond_false,if_true,if_false,Int.reduceEq,Bool.true_and,Bool.and_true,Bool.false_or,Bool.true_or,zgr,Bool.false_eq_true,reduceCtorEq]
  first
  | (rw[neg0,big0];ac_rfl)
  | (rw[← hr];ac_rfl)
mutual
theorem zrj:∀ (x:St) (d:Int),zbn (fun x _ (s:Unit)=>(ziI x,s)) x d ()=(zey x,())
 | .mk k nm to n a v args th el,d=>by
   rw[zbn,zey,zvm]
   cases h:zbg (.mk k nm to n a v args th el)with
   | false=>simp
   | true=>
     simp only[zfW th,Bool.true_and]
     cases h2:zaW th with
     | false=>simp
     | true=>simp only[zfW el,Bool.true_and]
theorem zfW:∀ (l:List St) (d:Int),yT (fun x _ (s:Unit)=>(ziI x,s)) l d ()=(zaW l,())
 | [],_=>rfl
 | x::l,d=>by
   rw[yT,zaW,zrj x]
   cases h:zey x with
   | false=>simp
   | true=>simp only[zfW l,Bool.true_and]
end
namespace tyP4d
def tyF:=And.intro @tq2 (And.intro @tq3 (And.intro @tq9 (And.intro @zgb (And.intro @zgc (And.intro @zcj (And.intro @zcc (And.intro @za9 (And.intro @zba (And.intro @zau (And.intro @zfA (And.intro @zbw (@zld))))))))))))
end tyP4d
open tyP4d
noncomputable def code44:{ c:SC // slim 55 (Try.f44.body.getD .skip)=c }:=by
 refine⟨?_,?_⟩
 rotate_left
 ·simp only[Try.f44,Option.getD_some,slim,zZ,zS,z6,z7,Nat.blt,Nat.ble]
  rfl
theorem zlL (f:Fu) (b:List UInt8→Bool):(fnNames f).all b=(b f.name&&f.params.all b&&f.locals.all b):=by
 rw[fnNames,List.all_append,List.all_append,List.all_cons,List.all_nil,Bool.and_true]
set_option maxRecDepth 100000 in
theorem ziJ (ρ:Nat→Int) (p:Pr) (hz:p.sz < 2 ^ 36):Con Try.prog ρ 44 [.agg p.cells] (.bool (wfP p)):=jX fit (pls:=pls) (zrh ρ) (.cons (.agg p.pure) .nil) (.bool _) (by
 have hw:Plain (zK pls zeM) 44:=yJ (fun _=>rfl) rfl
 have kn:∀ s:List UInt8,s.length < 2 ^ 60→∀ H,zr Try.prog (zK pls zeM) 76 [.str s] H fun v H'=>v=.bool (yx s)∧H'=H:=fun s h1 H=>yr (enc:=bsE) (out:=fun x=>.bool (yx x)) znN (x:=s) rfl h1
 have ks:∀ l:List (List UInt8),jd l < 2 ^ 60→∀ H,zr Try.prog (zK pls zeM) 77 [je l] H fun v H'=>v=.bool (l.all yx)∧H'=H:=fun l h1 H=>yr (enc:=fun l:List (List UInt8)=>[je l]) (out:=fun l=>.bool (l.all yx)) zvl (x:=l) rfl h1
 have hpz:p.sz=1+zak p.arrays+za2 p.funcs:=rfl
 have hla:=zaU p.arrays
 have hlf:=zbx p.funcs
 refine zj (M:=55) (rs:=[.tmp 2]) (hw.call _) hw.ice hw.froz Try.func44 rfl rfl code44.2 rfl ?_;dsimp only[code44,zO,Nat.reduceAdd]
 repeat' (first
  | (apply Rx.nl ?_;clear hK K)|apply Rx.o ?_|apply Rx.on ?_|(apply Rx.gd (fun hg hgp=>?_) (fun hg hgp=>?_)<;>try (cases hg;done))|(apply Rx.cd (fun hb hbp=>?_) (fun hb hbp=>?_)<;>try (cases hb;done))|apply Wp.seq ?_|(apply zd fun K hK=>?_)|apply Wp.block ?_|apply zh ?_|apply Rx.rt ?_|apply zk ?_)
 refine yd [1,8,9] [0] 10 p.arrays.length (fun i E H=>p.arrays.all (fun a=>yx a.name)=(p.arrays.drop i).all (fun a=>yx a.name)) eE (by simp) ?_
 rintro i E H2 hi hcE hrH hnH hsI hJ
 (try simp only[zi,zl,and_true,sB,sO,Nat.reduceBEq,Nat.reduceAdd,Nat.reduceLeDiff,tyF, *]at hcE)
 (try simp only[zi,zl,and_true,sB,sO,Nat.reduceBEq,Nat.reduceAdd,Nat.reduceLeDiff,tyF, *]at hrH)
 (try simp only[zb,ze,zH,Nat.zero_add,Nat.reduceAdd]at hnH)
 have hB0:(0 == H2.next)=false:=zP (by omega)
 have hC0:(H2.next == 0)=false:=zP (by omega)
 repeat' (first
  | (apply Rx.nl ?_;clear hK K)|apply Rx.o ?_|apply Rx.on ?_|(apply Rx.gd (fun hg hgp=>?_) (fun hg hgp=>?_)<;>try (cases hg;done))|(apply Rx.cd (fun hb hbp=>?_) (fun hb hbp=>?_)<;>try (cases hb;done))|apply Wp.seq ?_|(apply zd fun K hK=>?_)|apply Wp.block ?_|apply zh ?_|apply Rx.rt ?_|apply zk ?_)
 ·have hlt:i < p.arrays.length:=by simpa using hb
  have hgx:p.arrays[i]?=some p.arrays[i]:=List.getElem?_eq_getElem hlt
  have hsm:=zil (List.getElem_mem hlt)
  have hdr:(p.arrays.drop i).all (fun a=>yx a.name)=(yx p.arrays[i].name&&(p.arrays.drop (i+1)).all (fun a=>yx a.name)):=by rw[List.drop_eq_getElem_cons hlt,List.all_cons]
  repeat' (first
   | (apply Rx.nl ?_;clear hK K)|apply Rx.o ?_|apply Rx.on ?_|(apply Rx.call ?_;first|refine zaF (kn _ (by omega) _) ?_)|(apply Rx.gd (fun hg hgp=>?_) (fun hg hgp=>?_)<;>try (cases hg;done))|(apply Rx.cd (fun hb hbp=>?_) (fun hb hbp=>?_)<;>try (cases hb;done))|apply Wp.seq ?_|(apply zd fun K hK=>?_)|apply Wp.block ?_|apply zh ?_|apply Rx.rt ?_|apply zk ?_)
  all_goals (first|(refine⟨eI,_,eR,?_⟩;(try simp only[zp]);rw[wfP,hJ,hdr];(try simp only[Bool.not_eq_true',Bool.not_eq_false']at *);simp only[*,decide_true,decide_false,Bool.false_or,Bool.or_false,Bool.true_or,Bool.or_true,Bool.false_and,Bool.and_false,Bool.true_and,Bool.and_true,Bool.not_true,Bool.not_false,if_true,if_false,Int.reduceEq];done)|skip)
  refine⟨by omega,eL,eL,eN,(by simp only[sB,Nat.reduceBEq, *];exact zT (n:=p.arrays.length) (by omega) (by omega)),?_⟩
  rw[hJ,hdr];(try simp only[Bool.not_eq_true',Bool.not_eq_false']at *);simp only[*,decide_true,decide_false,Bool.false_or,Bool.or_false,Bool.true_or,Bool.or_true,Bool.false_and,Bool.and_false,Bool.true_and,Bool.and_true,Bool.not_true,Bool.not_false,if_true,if_false,Int.reduceEq]
 ·have hie:i=p.arrays.length:=by simp at hb;omega
  rw[hie,List.drop_length]at hJ
  have hJ':p.arrays.all (fun a=>yx a.name)=true:=hJ
  clear hJ hie hsI hi
  refine yd [20,21] [0] 22 p.funcs.length (fun i E H=>p.funcs.all zez=(p.funcs.drop i).all zez) eE (by simp) ?_
  rintro i E H3 hi hcE hrH hnH hsI hJ
  (try simp only[zi,zl,and_true,sB,sO,Nat.reduceBEq,Nat.reduceAdd,Nat.reduceLeDiff,tyF, *]at hcE)
  (try simp only[zi,zl,and_true,sB,sO,Nat.reduceBEq,Nat.reduceAdd,Nat.reduceLeDiff,tyF, *]at hrH)
  (try simp only[zb,ze,zH,Nat.zero_add,Nat.reduceAdd]at hnH)
  have hB0:(0 == H3.next)=false:=zP (by omega)
  have hC0:(H3.next == 0)=false:=zP (by omega)
  repeat' (first
   | (apply Rx.nl ?_;clear hK K)|apply Rx.o ?_|apply Rx.on ?_|(apply Rx.gd (fun hg hgp=>?_) (fun hg hgp=>?_)<;>try (cases hg;done))|(apply Rx.cd (fun hb hbp=>?_) (fun hb hbp=>?_)<;>try (cases hb;done))|apply Wp.seq ?_|(apply zd fun K hK=>?_)|apply Wp.block ?_|apply zh ?_|apply Rx.rt ?_|apply zk ?_)
  ·have hlt:i < p.funcs.length:=by simpa using hb
   have hgx:p.funcs[i]?=some p.funcs[i]:=List.getElem?_eq_getElem hlt
   have hsm:=zby (List.getElem_mem hlt)
   have hsz:p.funcs[i].sz=1+p.funcs[i].name.length+jd p.funcs[i].params+jd p.funcs[i].locals+zu p.funcs[i].body+p.funcs[i].value.sz:=rfl
   have hdr:(p.funcs.drop i).all zez=(zez p.funcs[i]&&(p.funcs.drop (i+1)).all zez):=by rw[List.drop_eq_getElem_cons hlt,List.all_cons]
   have hfn:zez p.funcs[i]=(yx p.funcs[i].name&&p.funcs[i].params.all yx&&p.funcs[i].locals.all yx&&zaW p.funcs[i].body&&wfE p.funcs[i].value):=by rw[zez,zlL]
   repeat' (first
    | (apply Rx.nl ?_;clear hK K)|apply Rx.o ?_|apply Rx.on ?_|(apply Rx.call ?_;first|refine zaF (kn _ (by omega) _) ?_|refine zaF (ks _ (by omega) _) ?_)|(apply Rx.gd (fun hg hgp=>?_) (fun hg hgp=>?_)<;>try (cases hg;done))|(apply Rx.cd (fun hb hbp=>?_) (fun hb hbp=>?_)<;>try (cases hb;done))|apply Wp.seq ?_|(apply zd fun K hK=>?_)|apply Wp.block ?_|apply zh ?_|apply Rx.rt ?_|apply zk ?_)
   ·refine WpL.call rfl eVk eAk ?_;simp only[List.cons_append,List.nil_append,List.append_nil]
    refine zr.mono ?_ (znc (fun _=>rfl) (fun _=>rfl) ⟨fun _=>rfl,rfl⟩ ⟨fun _=>rfl,rfl⟩ p.funcs[i].value (by omega) _)
    rintro v H4 ⟨rfl,hf4⟩
    have hn4:=hf4.next
    simp only[ze,zb]at hn4
    have g4:H4.get H3.next=some (.cells p.funcs[i].cells 0 true):=by rw[hf4.get _ (Nat.zero_le _) (by simp only[ze,zb];omega),Hp.get_set,if_pos rfl]
    have g40:H4.get 0=some (.cells p.cells 0 true):=by rw[hf4.get _ (Nat.zero_le _) (by simp only[ze,zb];omega),Hp.get_set,if_neg (by omega),za,if_neg (by omega)];exact hrH
    dsimp only[zA]
    repeat' (first
     | (apply Rx.nl ?_;clear hK K)|apply Rx.o ?_|apply Rx.on ?_|(apply Rx.gd (fun hg hgp=>?_) (fun hg hgp=>?_)<;>try (cases hg;done))|(apply Rx.cd (fun hb hbp=>?_) (fun hb hbp=>?_)<;>try (cases hb;done))|apply Wp.seq ?_|(apply zd fun K hK=>?_)|apply Wp.block ?_|apply zh ?_|apply Rx.rt ?_|apply zk ?_)
    ·refine WpL.call rfl eVk eAk ?_;simp only[List.cons_append,List.nil_append,List.append_nil]
     refine zr.mono ?_ (zax (yJ (fun _=>rfl) rfl) (I:=fun (_:Unit) _=>True) (fun _ _ _ _ _=>trivial) zri (zu p.funcs[i].body+1) p.funcs[i].body (by omega) 0 () H4 (by omega) (Nat.zero_le _) trivial)
     rintro v H5 ⟨rfl,hf5,_⟩
     have hn5:=hf5.next
     have g50:H5.get 0=some (.cells p.cells 0 true):=by rw[hf5.get _ (Nat.zero_le _) (by omega)];exact g40
     rw[zfW]
     dsimp only[zA]
     repeat' (first
      | (apply Rx.nl ?_;clear hK K)|apply Rx.o ?_|apply Rx.on ?_|(apply Rx.gd (fun hg hgp=>?_) (fun hg hgp=>?_)<;>try (cases hg;done))|(apply Rx.cd (fun hb hbp=>?_) (fun hb hbp=>?_)<;>try (cases hb;done))|apply Wp.seq ?_|(apply zd fun K hK=>?_)|apply Wp.block ?_|apply zh ?_|apply Rx.rt ?_|apply zk ?_)
     all_goals (first|(refine⟨eI,_,eR,?_⟩;(try simp only[zp]);rw[wfP,hJ',hJ,hdr,hfn];(try simp only[Bool.not_eq_true',Bool.not_eq_false']at *);simp only[*,decide_true,decide_false,Bool.false_or,Bool.or_false,Bool.true_or,Bool.or_true,Bool.false_and,Bool.and_false,Bool.true_and,Bool.and_true,Bool.not_true,Bool.not_false,if_true,if_false,Int.reduceEq];done)|skip)
     refine⟨by omega,eL,eL,eN,(by simp only[sB,Nat.reduceBEq, *];exact zT (n:=p.funcs.length) (by omega) (by omega)),?_⟩
     rw[hJ,hdr,hfn];(try simp only[Bool.not_eq_true',Bool.not_eq_false']at *);simp only[*,decide_true,decide_false,Bool.false_or,Bool.or_false,Bool.true_or,Bool.or_true,Bool.false_and,Bool.and_false,Bool.true_and,Bool.and_true,Bool.not_true,Bool.not_false,if_true,if_false,Int.reduceEq]
    all_goals skip
    all_goals (first|(refine⟨eI,_,eR,?_⟩;(try simp only[zp]);rw[wfP,hJ',hJ,hdr,hfn];(try simp only[Bool.not_eq_true',Bool.not_eq_false']at *);simp only[*,decide_true,decide_false,Bool.false_or,Bool.or_false,Bool.true_or,Bool.or_true,Bool.false_and,Bool.and_false,Bool.true_and,Bool.and_true,Bool.not_true,Bool.not_false,if_true,if_false,Int.reduceEq];done)|skip)
   all_goals skip
   all_goals (first|(refine⟨eI,_,eR,?_⟩;(try simp only[zp]);rw[wfP,hJ',hJ,hdr,hfn];(try simp only[Bool.not_eq_true',Bool.not_eq_false']at *);simp only[*,decide_true,decide_false,Bool.false_or,Bool.or_false,Bool.true_or,Bool.or_true,Bool.false_and,Bool.and_false,Bool.true_and,Bool.and_true,Bool.not_true,Bool.not_false,if_true,if_false,Int.reduceEq];done)|skip)
  ·all_goals (refine⟨eI,_,eR,?_⟩;try simp only[zp])
   have hie:i=p.funcs.length:=by simp at hb;omega
   rw[hie,List.drop_length]at hJ
   have hJ2:p.funcs.all zez=true:=hJ
   rw[wfP,hJ',hJ2];rfl)
end Go.Proofs.Ytpbcimfiofmoeaa
namespace Go.Proofs.Ytpbcimfiofmoeaa
set_option maxRecDepth 20000
set_option maxRecDepth 20000
open Go Go.Ab
namespace tyP4h
def tyF:=And.intro @zgb (And.intro @zgc (@zcj))
end tyP4h
open tyP4h
noncomputable def code22:{ c:SC // slim 16 (Try.f22.body.getD .skip)=c }:=by
 refine⟨?_,?_⟩
 rotate_left
 ·simp only[Try.f22,Option.getD_some,slim,zZ,zS,z6,z7,Nat.blt,Nat.ble]
  rfl
noncomputable def enLim:En:=⟨43,false,spP (fun p=>p.sz < 2 ^ 36) prE fun p=>.bool (zdX p)⟩
theorem znd (ρ:Nat→Int) (p:Pr) (hz:p.sz < 2 ^ 36):Con Try.prog ρ 43 (prE p) (.bool (zdX p)):=jX fit (pls:=pls) (l:=[]) trivial (.cons (.agg p.pure) .nil) (.bool _) (zpo ⟨zab _,zab _,zab _,zab _⟩ (zab _) (zab _) (zab _) p (by omega))
theorem zrk (ρ:Nat→Int):zbI Try.prog ρ enLim:=jL fun p hp=>znd ρ p hp
noncomputable def enWfP:En:=⟨44,false,spP (fun p=>p.sz < 2 ^ 36) prE fun p=>.bool (wfP p)⟩
theorem zrl (ρ:Nat→Int):zbI Try.prog ρ enWfP:=jL fun p hp=>ziJ ρ p hp
noncomputable def zrm:En:=⟨45,false,spP (fun p=>p.sz < 2 ^ 36) prE fun p=>.bool (zg6 p)⟩
theorem zpr (ρ:Nat→Int):zbI Try.prog ρ zrm:=jL fun p hp=>ziu ρ p hp
noncomputable def enRsl:En:=⟨46,false,spP (fun p=>p.sz < 2 ^ 36) prE fun p=>.int .i64 (zmU p)⟩
theorem zrn (ρ:Nat→Int):zbI Try.prog ρ enRsl:=jL fun p hp=>zlI ρ p hp
noncomputable def zgs:List En:=[enLim,enWfP,zrm,enRsl]
theorem zps (ρ:Nat→Int):zdC Try.prog ρ zgs:=⟨zrk ρ,zrl ρ,zpr ρ,zrn ρ,trivial⟩
theorem zne (ρ:Nat→Int) (p:Pr) (hz:p.sz < 2 ^ 36):Con Try.prog ρ 22 (prE p) (.int .i64 (yE p)):=jX fit (pls:=pls) (zps ρ) (.cons (.agg p.pure) .nil) (.int _ _) (by
 have hw:Plain (zK pls zgs) 22:=yJ (fun _=>rfl) rfl
 have kl:∀ H,zr Try.prog (zK pls zgs) 43 [.agg p.cells] H fun v H'=>v=.bool (zdX p)∧H'=H:=fun H=>yr (enc:=prE) (out:=fun p=>.bool (zdX p)) zcx (x:=p) rfl hz
 have kw:∀ H,zr Try.prog (zK pls zgs) 44 [.agg p.cells] H fun v H'=>v=.bool (wfP p)∧H'=H:=fun H=>yr (enc:=prE) (out:=fun p=>.bool (wfP p)) zcx (x:=p) rfl hz
 have kd:∀ H,zr Try.prog (zK pls zgs) 45 [.agg p.cells] H fun v H'=>v=.bool (zg6 p)∧H'=H:=fun H=>yr (enc:=prE) (out:=fun p=>.bool (zg6 p)) zcx (x:=p) rfl hz
 have kr:∀ H,zr Try.prog (zK pls zgs) 46 [.agg p.cells] H fun v H'=>v=.int .i64 (zmU p)∧H'=H:=fun H=>yr (enc:=prE) (out:=fun p=>.int .i64 (zmU p)) zcx (x:=p) rfl hz
 rw[prE,← zlw]
 refine zj (M:=16) (rs:=[.tmp 2]) (hw.call _) hw.ice hw.froz Try.func22 rfl rfl code22.2 rfl ?_;dsimp only[code22,zO,Nat.reduceAdd]
 repeat' (first
  | (apply Rx.nl ?_;clear hK K)|apply Rx.o ?_|(apply Rx.call ?_;first|refine zaF (kl _) ?_|refine zaF (kw _) ?_|refine zaF (kd _) ?_|refine zaF (kr _) ?_)|(apply Rx.cd (fun hb hbp=>?_) (fun hb hbp=>?_)<;>try (cases hb;done))|apply Wp.seq ?_|(apply zd fun K hK=>?_)|apply Wp.block ?_|apply zh ?_|apply Rx.rt ?_)
 all_goals
  all_goals (refine⟨eI,_,eR,?_⟩;try simp only[zp])
  rw[zis]
  (try simp only[Bool.not_eq_true',Bool.not_eq_false']at *);simp only[Bool.true_eq_false,Bool.false_eq_true, *,decide_true,decide_false,Bool.false_or,Bool.or_false,Bool.true_or,Bool.or_true,Bool.false_and,Bool.and_false,Bool.true_and,Bool.and_true,Bool.not_true,Bool.not_false,if_true,if_false,Int.reduceEq])
end Go.Proofs.Ytpbcimfiofmoeaa
