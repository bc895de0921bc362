/- Parts: P4b, P4c, P4d, P4h. -/
import Derived.Test.YtpbcimfiofmoeaaSIM
set_option linter.unusedSimpArgs false
set_option linter.unusedVariables false
set_option linter.unusedSectionVars false
set_option linter.defProp false
set_option maxHeartbeats 32000000
namespace Go.Proofs.Ytpbcimfiofmoeaa
set_option maxRecDepth 20000
set_option maxRecDepth 20000
open Go Go.Ab
namespace tyP4b
def tyF:=And.intro @tq2 (And.intro @tq3 (And.intro @tq4 (And.intro @tq9 (And.intro @zbb (And.intro @zbc (And.intro @zay (And.intro @zbx (@tq162))))))))
end tyP4b
open tyP4b
noncomputable def code80:{ c:SC // slim 111 (Try.f80.body.getD .skip)=c }:=by
 refine⟨?_,?_⟩
 rotate_left
 ·simp only[Try.f80,Option.getD_some,slim,zT,zR,zY,zZ,Nat.blt,Nat.ble]
  rfl
mutual
theorem zlX:∀ (x:Ex) (d:Int),zch (fun x _=>wfX x) x d=wfE x
 | .mk k n s o ks,d=>by rw[zch,wfE,zjD ks,Bool.and_comm]
theorem zjD:∀ (l:List Ex) (d:Int),jN (fun x _=>wfX x) l d=zaJ l
 | [],_=>rfl
 | x::l,d=>by rw[jN,zaJ,zlX x,zjD l]
end
theorem znn {l:List En} (hv:∀ ar,yJ l 76 ar=enPN.sp ar) (ho:∀ ar,yJ l 113 ar=enPO.sp ar) (hp:(∀ ar,yJ l 79 ar=none)∧zfI l 79=false) (hq:(∀ ar,yJ l 78 ar=none)∧zfI l 78=false)
 (x:Ex) (hx:x.sz < 2 ^ 60) (H:Hp):zu Try.prog (zJ pls l) 78 [.agg x.cells,.int .i64 0,.clo 79 []] H fun v H'=>v=.bool (wfE x)∧FrB 0 H H':=by
 have hI:zg7 0 fun _:Hp=>True:=fun _ _ _ _=>trivial
 refine zu.mono ?_ (za8 (yD hq.1 hq.2) hI (zrp hv ho hp hI) (x.sz+1) x (Nat.lt_succ_self _) 0 H hx (Nat.zero_le _) trivial)
 rintro v H' ⟨rfl,h2,_⟩
 exact⟨by rw[zlX],h2⟩
def zcn (x:Ex) (w:Bool):Bool:=bif w then wfE x else zeroE x
noncomputable def zrq:List En:=[enPN,enPO,enPZ]
theorem zrr (ρ:Nat→Int):zdC Try.prog ρ zrq:=⟨zok ρ,zol ρ,zvy ρ,trivial⟩
theorem zi6 (ρ:Nat→Int) (x:Ex) (w:Bool) (hx:x.sz < 2 ^ 60):Con Try.prog ρ 116 [.agg x.cells,.bool w] (.bool (zcn x w)):=yO fit (pls:=pls) (zrr ρ) (.cons (.agg x.pure) (.cons (.bool _) .nil)) (.bool _) (by
 have hw:Plain (zJ pls zrq) 116:=yD (fun _=>rfl) rfl
 have kz:∀ y:Ex,∀ H,zu Try.prog (zJ pls zrq) 135 [.agg y.cells] H fun v H'=>v=.bool (zeroE y)∧H'=H:=fun y H=>yd (enc:=exE) (out:=fun x=>.bool (zeroE x)) zuH (x:=y) rfl trivial
 cases w
 ·refine zi (M:=10) (rs:=[.tmp 4]) (hw.call _) hw.ice hw.froz Try.func116 rfl rfl zoj.2 rfl ?_;dsimp only[zoj,zH,Nat.reduceAdd]
  repeat' (first
   | (apply Rx.nl ?_;clear hK K)|apply Rx.o ?_|(apply Rx.call ?_;first|refine jM (kz _ _) ?_)|(apply Rx.cd (fun hb hbp=>?_) (fun hb hbp=>?_)<;>try (cases hb;done))|apply Wp.seq ?_|(apply zd fun K hK=>?_)|apply zh ?_|apply Rx.rt ?_)
  all_goals (refine⟨eI,_,eR,?_⟩;try simp only[zp])
  rfl
 ·refine zi (M:=10) (rs:=[.tmp 4]) (hw.call _) hw.ice hw.froz Try.func116 rfl rfl zoj.2 rfl ?_;dsimp only[zoj,zH,Nat.reduceAdd]
  repeat' (first
   | (apply Rx.nl ?_;clear hK K)|apply Rx.o ?_|(apply Rx.cd (fun hb hbp=>?_) (fun hb hbp=>?_)<;>try (cases hb;done))|apply Wp.seq ?_|(apply zd fun K hK=>?_)|apply zh ?_|apply Rx.rt ?_)
  refine WpL.call rfl eVk eAk ?_;simp only[List.cons_append,List.nil_append,List.append_nil]
  refine zu.mono ?_ (znn (fun _=>rfl) (fun _=>rfl) ⟨fun _=>rfl,rfl⟩ ⟨fun _=>rfl,rfl⟩ x hx _)
  rintro v H ⟨rfl,_⟩
  dsimp only[zA]
  repeat' (first
   | (apply Rx.nl ?_;clear hK K)|apply Rx.o ?_|(apply Rx.cd (fun hb hbp=>?_) (fun hb hbp=>?_)<;>try (cases hb;done))|apply Wp.seq ?_|(apply zd fun K hK=>?_)|apply zh ?_|apply Rx.rt ?_)
  all_goals (refine⟨eI,_,eR,?_⟩;try simp only[zp])
  rfl)
def fld (k:Int) (i:Nat):Bool:=(znl k).getD i false
theorem fld_eq (k:Int):(znl k).map AV.bool=[.bool (fld k 0),.bool (fld k 1),.bool (fld k 2),.bool (fld k 3),.bool (fld k 4),.bool (fld k 5),.bool (fld k 6),.bool (fld k 7)]:=by
 have h:∃ a b c d e f g h,znl k=[a,b,c,d,e,f,g,h]:=by
  unfold znl
  repeat' split
  all_goals exact⟨_,_,_,_,_,_,_,_,rfl⟩
 obtain⟨a,b,c,d,e,f,g,h,e1⟩:=h
 simp only[fld,e1];rfl
def ziI (x:St):Bool:=
 zbr x.kind&&zcF x.name (fld x.kind 0)&&zcF x.to (fld x.kind 1)&&zcn x.at_ (fld x.kind 3)&&zcn x.value (fld x.kind 4) &&
 !decide (x.n < 0) && !decide (1000000 < x.n)&&(fld x.kind 2||decide (x.n=0))&&(fld x.kind 5 || !decide ((0:Int) < x.args.length))&&(fld x.kind 6 || !decide ((0:Int) < x.thn.length))&&(fld x.kind 7 || !decide ((0:Int) < x.els.length))&&zaJ x.args
def badB (x:St):Bool:=decide (x.n < 0)||decide (1000000 < x.n)||(!fld x.kind 2 && !decide (x.n=0))||(!fld x.kind 5&&decide ((0:Int) < x.args.length))||(!fld x.kind 6&&decide ((0:Int) < x.thn.length))||(!fld x.kind 7&&decide ((0:Int) < x.els.length))
noncomputable def enPF:En:=⟨114,false,spP (fun _=>True) (fun n:Int=>[.int .i64 n]) fldA⟩
theorem zvz (ρ:Nat→Int):zaF Try.prog ρ enPF:=yW fun x _=>znm ρ x
def sbE (x:List UInt8×Bool):List AV:=[.str x.1,.bool x.2]
theorem zvA (x y:List UInt8×Bool) (h:sbE x=sbE y):x=y:=by
 simp only[sbE,List.cons.injEq,AV.str.injEq,AV.bool.injEq,and_true]at h
 exact Prod.ext h.1 h.2
noncomputable def enPM:En:=⟨115,false,spP (fun x=>x.1.length < 2 ^ 60) sbE fun x=>.bool (zcF x.1 x.2)⟩
theorem zvB (ρ:Nat→Int):zaF Try.prog ρ enPM:=yW fun x hx=>znk ρ x.1 x.2 hx
def ebE (x:Ex×Bool):List AV:=[.agg x.1.cells,.bool x.2]
theorem zvC (x y:Ex×Bool) (h:ebE x=ebE y):x=y:=by
 simp only[ebE,List.cons.injEq,AV.agg.injEq,AV.bool.injEq,and_true]at h
 exact Prod.ext (Ex.inj h.1) h.2
noncomputable def enPX:En:=⟨116,false,spP (fun x=>x.1.sz < 2 ^ 60) ebE fun x=>.bool (zcn x.1 x.2)⟩
theorem zvD (ρ:Nat→Int):zaF Try.prog ρ enPX:=yW fun x hx=>zi6 ρ x.1 x.2 hx
noncomputable def enPS:En:=⟨77,false,spP (fun l=>yL l < 2 ^ 60) (fun l:List (List UInt8)=>[jg l]) fun l=>.bool (l.all yA)⟩
theorem zvE (ρ:Nat→Int):zaF Try.prog ρ enPS:=yW fun x hx=>znj ρ x hx
theorem zvF (x y:List (List UInt8)) (h:([jg x]:List AV)=[jg y]):x=y:=by
 simp only[List.cons.injEq,AV.lst.injEq,and_true]at h
 exact zfK h
noncomputable def zeM:List En:=[enPN,enPO,enPF,enPM,enPX,enPS]
theorem zrs (ρ:Nat→Int):zdC Try.prog ρ zeM:=⟨zok ρ,zol ρ,zvz ρ,zvB ρ,zvD ρ,zvE ρ,trivial⟩
theorem fldv1:fld 1 0=true∧fld 1 1=false∧fld 1 2=false∧fld 1 3=false∧fld 1 4=true∧fld 1 5=false∧fld 1 6=false∧fld 1 7=false∧zbr 1=true:=by refine⟨rfl,rfl,rfl,rfl,rfl,rfl,rfl,rfl,rfl⟩
theorem fldv2:fld 2 0=true∧fld 2 1=false∧fld 2 2=false∧fld 2 3=true∧fld 2 4=true∧fld 2 5=false∧fld 2 6=false∧fld 2 7=false∧zbr 2=true:=by refine⟨rfl,rfl,rfl,rfl,rfl,rfl,rfl,rfl,rfl⟩
theorem fldv3:fld 3 0=false∧fld 3 1=false∧fld 3 2=false∧fld 3 3=false∧fld 3 4=true∧fld 3 5=false∧fld 3 6=true∧fld 3 7=true∧zbr 3=true:=by refine⟨rfl,rfl,rfl,rfl,rfl,rfl,rfl,rfl,rfl⟩
theorem fldv4:fld 4 0=false∧fld 4 1=false∧fld 4 2=false∧fld 4 3=false∧fld 4 4=true∧fld 4 5=false∧fld 4 6=true∧fld 4 7=false∧zbr 4=true:=by refine⟨rfl,rfl,rfl,rfl,rfl,rfl,rfl,rfl,rfl⟩
theorem fldv5:fld 5 0=false∧fld 5 1=false∧fld 5 2=false∧fld 5 3=false∧fld 5 4=true∧fld 5 5=false∧fld 5 6=false∧fld 5 7=false∧zbr 5=true:=by refine⟨rfl,rfl,rfl,rfl,rfl,rfl,rfl,rfl,rfl⟩
theorem fldv6:fld 6 0=true∧fld 6 1=true∧fld 6 2=false∧fld 6 3=false∧fld 6 4=false∧fld 6 5=true∧fld 6 6=false∧fld 6 7=false∧zbr 6=true:=by refine⟨rfl,rfl,rfl,rfl,rfl,rfl,rfl,rfl,rfl⟩
theorem fldv7:fld 7 0=false∧fld 7 1=false∧fld 7 2=true∧fld 7 3=false∧fld 7 4=false∧fld 7 5=false∧fld 7 6=false∧fld 7 7=false∧zbr 7=true:=by refine⟨rfl,rfl,rfl,rfl,rfl,rfl,rfl,rfl,rfl⟩
set_option maxRecDepth 100000 in
theorem zrt:ziG (zJ pls zeM) 0 (fun (_:Unit) _=>True) 80 [] fun x _ s=>(ziI x,s):=by
 intro x d s H hz _ _
 have hw:Plain (zJ pls zeM) 80:=yD (fun _=>rfl) rfl
 have kf:∀ k H,zu Try.prog (zJ pls zeM) 114 [.int .i64 k] H fun v H'=>v=.tup [.agg [.bool (fld k 0),.bool (fld k 1),.bool (fld k 2),.bool (fld k 3),.bool (fld k 4),.bool (fld k 5),.bool (fld k 6),.bool (fld k 7)],.bool (zbr k)]∧H'=H:=fun k H=>by
  have:=yd (P:=Try.prog) (pls:=pls) (l:=zeM) (enc:=fun n:Int=>[.int .i64 n]) (ok:=fun _=>True) (out:=fldA) zlI (g:=114) (x:=k) rfl trivial (H:=H)
  unfold fldA at this
  rw[fld_eq]at this
  exact this
 have km:∀ (s:List UInt8) (w:Bool),s.length < 2 ^ 60→∀ H,zu Try.prog (zJ pls zeM) 115 [.str s,.bool w] H fun v H'=>v=.bool (zcF s w)∧H'=H:=fun s w h H=>yd (enc:=sbE) (out:=fun x=>.bool (zcF x.1 x.2)) zvA (x:=(s,w)) rfl h
 have kx:∀ (y:Ex) (w:Bool),y.sz < 2 ^ 60→∀ H,zu Try.prog (zJ pls zeM) 116 [.agg y.cells,.bool w] H fun v H'=>v=.bool (zcn y w)∧H'=H:=fun y w h H=>yd (enc:=ebE) (out:=fun x=>.bool (zcn x.1 x.2)) zvC (x:=(y,w)) rfl h
 have hsz:=x.sz_eq
 have hlen:=za1 x.args
 have hx0:∀ a b,Ab.extract (.tup [a,b]) 0=some a:=fun _ _=>rfl
 have hx1:∀ a b,Ab.extract (.tup [a,b]) 1=some b:=fun _ _=>rfl
 refine zi (M:=111) (rs:=[.tmp 4]) (hw.call _) hw.ice hw.froz Try.func80 rfl rfl code80.2 rfl ?_;dsimp only[code80,zH,Nat.reduceAdd]
 repeat' (first
  | (apply Rx.nl ?_;clear hK K)|apply Rx.o ?_|apply Rx.on ?_|(apply Rx.call ?_;first|refine jM (kf _ _) ?_|refine jM (km _ _ (by omega) _) ?_|refine jM (kx _ _ (by omega) _) ?_)|apply Rx.gu ?_|(apply Rx.gd (fun hg hgp=>?_) (fun hg hgp=>?_)<;>try (cases hg;done))|apply Wp.seq ?_|(apply zd fun K hK=>?_)|apply Wp.block ?_|apply zh ?_|apply Rx.rt ?_|apply zj ?_)
 all_goals (first|(refine Rx.cd (t:=true) (h1:=fun _ _=>?_) (h2:=fun hzz _=>?_)<;>try (cases hzz;done))|skip)
 all_goals
  repeat' (first
   | (apply Rx.nl ?_;clear hK K)|apply Rx.o ?_|apply Rx.on ?_|apply Rx.gu ?_|(apply Rx.gd (fun hg hgp=>?_) (fun hg hgp=>?_)<;>try (cases hg;done))|apply Wp.seq ?_|(apply zd fun K hK=>?_)|apply Wp.block ?_|apply zh ?_|apply Rx.rt ?_|apply zj ?_)
 all_goals (first|(refine⟨eI,_,eR,?_⟩;(try simp only[zp]);refine⟨by rw[ziI];(try simp only[Bool.not_eq_true',Bool.not_eq_false']at *);simp only[*,decide_true,decide_false,Bool.false_or,Bool.or_false,Bool.true_or,Bool.or_true,Bool.false_and,Bool.and_false,Bool.true_and,Bool.and_true,Bool.not_true,Bool.not_false,if_true,if_false,Int.reduceEq],(((FrB.refl _ _).alloc _).alloc _).set (.inl (by(try simp only[zb]);omega)) _,trivial⟩;done)|skip)
 have hfr:FrB 0 H (((H.alloc (.cells x.cells 0 true)).alloc (.cells [.bool false,.bool false,.bool false,.bool false,.bool false,.bool false,.bool false,.bool false] 0 true)).set (H.next+1) (.cells [.bool (fld x.kind 0),.bool (fld x.kind 1),.bool (fld x.kind 2),.bool (fld x.kind 3),.bool (fld x.kind 4),.bool (fld x.kind 5),.bool (fld x.kind 6),.bool (fld x.kind 7)] 0 true)):=(((FrB.refl _ _).alloc _).alloc _).set (.inl (by omega)) _
 refine zqA [2,4,5,48] fun E' hcE=>?_
 (try simp only[zk,zl,and_true,sB,sO,Nat.reduceBEq,Nat.reduceAdd,Nat.reduceLeDiff,tyF, *]at hcE)
 generalize hHb:Hp.set _ (H.next+1) _=Hb at hfr ⊢
 have gb:Hb.get H.next=some (.cells x.cells 0 true):=by rw[← hHb,Hp.get_set,if_neg (by omega),za,if_neg (by simp only[zb];omega),za,if_pos rfl]
 have gf:Hb.get (H.next+1)=some (.cells [.bool (fld x.kind 0),.bool (fld x.kind 1),.bool (fld x.kind 2),.bool (fld x.kind 3),.bool (fld x.kind 4),.bool (fld x.kind 5),.bool (fld x.kind 6),.bool (fld x.kind 7)] 0 true):=by rw[← hHb,Hp.get_set,if_pos rfl]
 have nb:H.next+2≤Hb.next:=by rw[← hHb];exact Nat.le_refl _
 clear hHb
 refine Rx.cd (h1:=fun hb hbp=>?_) (h2:=fun hb hbp=>?_)
 ·repeat' (first
   | (apply Rx.nl ?_;clear hK K)|apply Rx.o ?_|apply Rx.on ?_|apply Rx.gu ?_|(apply Rx.gd (fun hg hgp=>?_) (fun hg hgp=>?_)<;>try (cases hg;done))|apply Wp.seq ?_|(apply zd fun K hK=>?_)|apply Wp.block ?_|apply zh ?_|apply Rx.rt ?_|apply zj ?_)
  all_goals (refine⟨eI,_,eR,?_⟩;try simp only[zp])
  refine⟨by rw[ziI];(try simp only[Bool.not_eq_true',Bool.not_eq_false']at *);simp only[*,decide_true,decide_false,Bool.false_or,Bool.or_false,Bool.true_or,Bool.or_true,Bool.false_and,Bool.and_false,Bool.true_and,Bool.and_true,Bool.not_true,Bool.not_false,if_true,if_false,Int.reduceEq],hfr,trivial⟩
 refine Wp.skip ?_
 dsimp only[zcc,zcd]
 refine Wp.seq ?_
 first
 | refine zd fun K hK0=>?_
 | (simp only[zT,zR,zY,zZ,Nat.blt,Nat.ble];refine zd fun K hK0=>?_)
 | (refine Wp.seq ?_;refine zd fun K hK0=>?_)
 have hK:∀ E2 H2,(E2.at 2=.ptr H.next 0∧E2.at 4=.bool false∧E2.at 99=.bool (badB x)∧H2=Hb)→K E2 H2:=by
  rintro E2 H2 ⟨k2,k4,k99,rfl⟩
  apply hK0
  clear hK0 K
  dsimp only[zcc,zcd]
  have hgood:(zbr x.kind&&zcF x.name (fld x.kind 0)&&zcF x.to (fld x.kind 1)&&zcn x.at_ (fld x.kind 3)&&zcn x.value (fld x.kind 4))=true:=by(try simp only[Bool.not_eq_true',Bool.not_eq_false']at *);simp only[*,decide_true,decide_false,Bool.false_or,Bool.or_false,Bool.true_or,Bool.or_true,Bool.false_and,Bool.and_false,Bool.true_and,Bool.and_true,Bool.not_true,Bool.not_false,if_true,if_false,Int.reduceEq]
  have hsp:ziI x=(!badB x&&zaJ x.args):=by
   have e:ziI x=((zbr x.kind&&zcF x.name (fld x.kind 0)&&zcF x.to (fld x.kind 1)&&zcn x.at_ (fld x.kind 3)&&zcn x.value (fld x.kind 4))&&(!badB x&&zaJ x.args)):=by
    simp only[ziI,badB,Bool.not_or,Bool.not_and,Bool.not_not,Bool.and_assoc]
   rw[e,hgood,Bool.true_and]
  repeat' (first
   | (apply Rx.nl ?_;clear hK K)|apply Rx.o ?_|apply Rx.on ?_|apply Rx.gu ?_|(apply Rx.gd (fun hg hgp=>?_) (fun hg hgp=>?_)<;>try (cases hg;done))|(apply Rx.cd (fun hb hbp=>?_) (fun hb hbp=>?_)<;>try (cases hb;done))|apply Wp.seq ?_|(apply zd fun K hK=>?_)|apply Wp.block ?_|apply zh ?_|apply Rx.rt ?_|apply zj ?_)
  ·all_goals (refine⟨eI,_,eR,?_⟩;try simp only[zp])
   refine⟨by rw[hsp];(try simp only[Bool.not_eq_true',Bool.not_eq_false']at *);simp only[*,decide_true,decide_false,Bool.false_or,Bool.or_false,Bool.true_or,Bool.or_true,Bool.false_and,Bool.and_false,Bool.true_and,Bool.and_true,Bool.not_true,Bool.not_false,if_true,if_false,Int.reduceEq],hfr,trivial⟩
  refine yj [2,4,101,102] [] 103 x.args.length (fun i E H2=>zaJ x.args=zaJ (x.args.drop i)∧FrB 0 H H2) eE ⟨by simp,hfr⟩ ?_
  rintro i E H3 hi hcE hrH hnH hsI ⟨hJ,hf2⟩
  (try simp only[zk,zl,and_true,sB,sO,Nat.reduceBEq,Nat.reduceAdd,Nat.reduceLeDiff,tyF, *]at hcE)
  (try simp only[zk,zl,and_true,sB,sO,Nat.reduceBEq,Nat.reduceAdd,Nat.reduceLeDiff,tyF, *]at hrH)
  (try simp only[zb,ze,zM,Nat.zero_add,Nat.reduceAdd]at hnH)
  repeat' (first
   | (apply Rx.nl ?_;clear hK K)|apply Rx.o ?_|apply Rx.on ?_|apply Rx.gu ?_|(apply Rx.gd (fun hg hgp=>?_) (fun hg hgp=>?_)<;>try (cases hg;done))|(apply Rx.cd (fun hb hbp=>?_) (fun hb hbp=>?_)<;>try (cases hb;done))|apply Wp.seq ?_|(apply zd fun K hK=>?_)|apply Wp.block ?_|apply zh ?_|apply Rx.rt ?_|apply zj ?_)
  ·have hlt:i < x.args.length:=by simpa using hb
   have hgx:x.args[i]?=some x.args[i]:=List.getElem?_eq_getElem hlt
   have hsm:=zat (List.getElem_mem hlt)
   have hdr:zaJ (x.args.drop i)=(wfE x.args[i]&&zaJ (x.args.drop (i+1))):=by rw[List.drop_eq_getElem_cons hlt];rfl
   repeat' (first
    | (apply Rx.nl ?_;clear hK K)|apply Rx.o ?_|apply Rx.on ?_|apply Rx.gu ?_|(apply Rx.gd (fun hg hgp=>?_) (fun hg hgp=>?_)<;>try (cases hg;done))|(apply Rx.cd (fun hb hbp=>?_) (fun hb hbp=>?_)<;>try (cases hb;done))|apply Wp.seq ?_|(apply zd fun K hK=>?_)|apply Wp.block ?_|apply zh ?_|apply Rx.rt ?_|apply zj ?_)
   refine WpL.call rfl eVk eAk ?_;simp only[List.cons_append,List.nil_append,List.append_nil]
   refine zu.mono ?_ (znn (fun _=>rfl) (fun _=>rfl) ⟨fun _=>rfl,rfl⟩ ⟨fun _=>rfl,rfl⟩ x.args[i] (by omega) _)
   rintro v H4 ⟨rfl,hf4⟩
   dsimp only[zA]
   have hf5:FrB 0 H H4:=hf2.trans ((((FrB.refl _ _).alloc _).set (.inl (Nat.le_refl _)) _).trans hf4)
   have n4:=hf4.next
   simp only[ze,zb]at n4
   repeat' (first
    | (apply Rx.nl ?_;clear hK K)|apply Rx.o ?_|apply Rx.on ?_|apply Rx.gu ?_|(apply Rx.gd (fun hg hgp=>?_) (fun hg hgp=>?_)<;>try (cases hg;done))|(apply Rx.cd (fun hb hbp=>?_) (fun hb hbp=>?_)<;>try (cases hb;done))|apply Wp.seq ?_|(apply zd fun K hK=>?_)|apply Wp.block ?_|apply zh ?_|apply Rx.rt ?_|apply zj ?_)
   all_goals (first|(refine⟨eI,_,eR,?_⟩;(try simp only[zp]);refine⟨by rw[hsp,hJ,hdr];(try simp only[Bool.not_eq_true',Bool.not_eq_false']at *);simp only[*,decide_true,decide_false,Bool.false_or,Bool.or_false,Bool.true_or,Bool.or_true,Bool.false_and,Bool.and_false,Bool.true_and,Bool.and_true,Bool.not_true,Bool.not_false,if_true,if_false,Int.reduceEq],hf5,trivial⟩;done)|skip)
   refine⟨by omega,eL,eL,eN,(by simp only[sB,Nat.reduceBEq, *];exact z7 (n:=x.args.length) (by omega) (by omega)),?_⟩
   exact⟨by rw[hJ,hdr];(try simp only[Bool.not_eq_true',Bool.not_eq_false']at *);simp only[*,decide_true,decide_false,Bool.false_or,Bool.or_false,Bool.true_or,Bool.or_true,Bool.false_and,Bool.and_false,Bool.true_and,Bool.and_true,Bool.not_true,Bool.not_false,if_true,if_false,Int.reduceEq],hf5⟩
  ·all_goals (refine⟨eI,_,eR,?_⟩;try simp only[zp])
   refine⟨by rw[hsp,hJ,show i=x.args.length by simp at hb;omega,List.drop_length];(try simp only[Bool.not_eq_true',Bool.not_eq_false']at *);simp only[zaJ, *,decide_true,decide_false,Bool.false_or,Bool.or_false,Bool.true_or,Bool.or_true,Bool.false_and,Bool.and_false,Bool.true_and,Bool.and_true,Bool.not_true,Bool.not_false,if_true,if_false,Int.reduceEq],hf2,trivial⟩
 clear hK0
 repeat' (first
  | (apply Rx.nl ?_;clear hK K)|apply Rx.o ?_|apply Rx.on ?_|apply Rx.gu ?_|(apply Rx.gd (fun hg hgp=>?_) (fun hg hgp=>?_)<;>try (cases hg;done))|apply Wp.seq ?_|(apply zd fun K hK=>?_)|apply Wp.block ?_|apply zh ?_|apply Rx.rt ?_|apply zj ?_)
 all_goals
  refine⟨eE,eE,?_,rfl⟩
  rw[badB]
  (try simp only[Bool.not_eq_true',Bool.not_eq_false']at *)
  simp only[sB,Nat.reduceBEq, *,decide_true,decide_false,Bool.false_or,Bool.or_false,Bool.true_or,Bool.or_true,Bool.false_and,Bool.and_false,Bool.true_and,Bool.and_true,Bool.not_true,Bool.not_false]
end Go.Proofs.Ytpbcimfiofmoeaa
namespace Go.Proofs.Ytpbcimfiofmoeaa
set_option maxRecDepth 20000
open Go Go.Ab
theorem zgD (n:Nat):(!decide ((0:Int) < n))=decide ((n:Int)=0):=by
 cases n with
 | zero=>rfl
 | succ n=>simp;omega
theorem rng0 (n:Int):(!decide (n < 0) && !decide (1000000 < n)&&decide (n=0))=decide (n=0):=by
 by_cases h:n=0
 ·subst h;rfl
 ·simp[h]
theorem neg0 (n:Int):(!decide (n < 0))=decide (0≤n):=by
 by_cases h:n < 0
 ·simp[h]
 ·simp[h];omega
theorem big0 (n:Int):(!decide (1000000 < n))=decide (n≤1000000):=by
 by_cases h:1000000 < n
 ·simp[h]
 ·simp[h];omega
theorem zvG (x:St):ziI x=zbp x:=by
 have hk:x.kind=1∨x.kind=2∨x.kind=3∨x.kind=4∨x.kind=5∨x.kind=6∨x.kind=7∨zbr x.kind=false:=by
  simp only[zbr,Bool.and_eq_false_iff,decide_eq_false_iff_not];omega
 rcases hk with hk|hk|hk|hk|hk|hk|hk|hk
 case inr.inr.inr.inr.inr.inr.inr=>
  have h:zck x=false:=by
   simp only[zbr,Bool.and_eq_false_iff,decide_eq_false_iff_not]at hk
   unfold zck
   rw[if_neg (by omega),if_neg (by omega),if_neg (by omega),if_neg (by omega),if_neg (by omega),if_neg (by omega),if_neg (by omega)]
  rw[ziI,zbp,hk,h]
  simp
 all_goals
  have hr:=rng0 x.n
  simp only[ziI,zbp,zck,hk,fldv1,fldv2,fldv3,fldv4,fldv5,fldv6,fldv7,zd1,zik,zcF,zcn,cond_true,cond_false,if_true,if_false,Int.reduceEq,Bool.true_and,Bool.and_true,Bool.false_or,Bool.true_or,zgD,Bool.false_eq_true,reduceCtorEq]
  first
  | (rw[neg0,big0];ac_rfl)
  | (rw[← hr];ac_rfl)
mutual
theorem zru:∀ (x:St) (d:Int),zbo (fun x _ (s:Unit)=>(ziI x,s)) x d ()=(ze8 x,())
 | .mk k nm to n a v args th el,d=>by
   rw[zbo,ze8,zvG]
   cases h:zbp (.mk k nm to n a v args th el)with
   | false=>simp
   | true=>
     simp only[zf4 th,Bool.true_and]
     cases h2:zaK th with
     | false=>simp
     | true=>simp only[zf4 el,Bool.true_and]
theorem zf4:∀ (l:List St) (d:Int),yS (fun x _ (s:Unit)=>(ziI x,s)) l d ()=(zaK l,())
 | [],_=>rfl
 | x::l,d=>by
   rw[yS,zaK,zru x]
   cases h:ze8 x with
   | false=>simp
   | true=>simp only[zf4 l,Bool.true_and]
end
namespace tyP4d
def tyF:=And.intro @tq2 (And.intro @tq3 (And.intro @tq9 (And.intro @zfG (And.intro @zgk (And.intro @zcp (And.intro @zcg (And.intro @zbb (And.intro @zbc (And.intro @zay (And.intro @zfH (And.intro @zbx (@zj7))))))))))))
end tyP4d
open tyP4d
noncomputable def code44:{ c:SC // slim 55 (Try.f44.body.getD .skip)=c }:=by
 refine⟨?_,?_⟩
 rotate_left
 ·simp only[Try.f44,Option.getD_some,slim,zT,zR,zY,zZ,Nat.blt,Nat.ble]
  rfl
theorem zlY (f:Fu) (b:List UInt8→Bool):(fnNames f).all b=(b f.name&&f.params.all b&&f.locals.all b):=by
 rw[fnNames,List.all_append,List.all_append,List.all_cons,List.all_nil,Bool.and_true]
set_option maxRecDepth 100000 in
theorem ziJ (ρ:Nat→Int) (p:Pr) (hz:p.sz < 2 ^ 36):Con Try.prog ρ 44 [.agg p.cells] (.bool (wfP p)):=yO fit (pls:=pls) (zrs ρ) (.cons (.agg p.pure) .nil) (.bool _) (by
 have hw:Plain (zJ pls zeM) 44:=yD (fun _=>rfl) rfl
 have kn:∀ s:List UInt8,s.length < 2 ^ 60→∀ H,zu Try.prog (zJ pls zeM) 76 [.str s] H fun v H'=>v=.bool (yA s)∧H'=H:=fun s h1 H=>yd (enc:=bsE) (out:=fun x=>.bool (yA x)) znW (x:=s) rfl h1
 have ks:∀ l:List (List UInt8),yL l < 2 ^ 60→∀ H,zu Try.prog (zJ pls zeM) 77 [jg l] H fun v H'=>v=.bool (l.all yA)∧H'=H:=fun l h1 H=>yd (enc:=fun l:List (List UInt8)=>[jg l]) (out:=fun l=>.bool (l.all yA)) zvF (x:=l) rfl h1
 have hpz:p.sz=1+zaj p.arrays+za0 p.funcs:=rfl
 have hla:=zaU p.arrays
 have hlf:=zby p.funcs
 refine zi (M:=55) (rs:=[.tmp 2]) (hw.call _) hw.ice hw.froz Try.func44 rfl rfl code44.2 rfl ?_;dsimp only[code44,zH,Nat.reduceAdd]
 repeat' (first
  | (apply Rx.nl ?_;clear hK K)|apply Rx.o ?_|apply Rx.on ?_|(apply Rx.gd (fun hg hgp=>?_) (fun hg hgp=>?_)<;>try (cases hg;done))|(apply Rx.cd (fun hb hbp=>?_) (fun hb hbp=>?_)<;>try (cases hb;done))|apply Wp.seq ?_|(apply zd fun K hK=>?_)|apply Wp.block ?_|apply zh ?_|apply Rx.rt ?_|apply zj ?_)
 refine yj [1,8,9] [0] 10 p.arrays.length (fun i E H=>p.arrays.all (fun a=>yA a.name)=(p.arrays.drop i).all (fun a=>yA a.name)) eE (by simp) ?_
 rintro i E H2 hi hcE hrH hnH hsI hJ
 (try simp only[zk,zl,and_true,sB,sO,Nat.reduceBEq,Nat.reduceAdd,Nat.reduceLeDiff,tyF, *]at hcE)
 (try simp only[zk,zl,and_true,sB,sO,Nat.reduceBEq,Nat.reduceAdd,Nat.reduceLeDiff,tyF, *]at hrH)
 (try simp only[zb,ze,zM,Nat.zero_add,Nat.reduceAdd]at hnH)
 have hB0:(0 == H2.next)=false:=zF (by omega)
 have hC0:(H2.next == 0)=false:=zF (by omega)
 repeat' (first
  | (apply Rx.nl ?_;clear hK K)|apply Rx.o ?_|apply Rx.on ?_|(apply Rx.gd (fun hg hgp=>?_) (fun hg hgp=>?_)<;>try (cases hg;done))|(apply Rx.cd (fun hb hbp=>?_) (fun hb hbp=>?_)<;>try (cases hb;done))|apply Wp.seq ?_|(apply zd fun K hK=>?_)|apply Wp.block ?_|apply zh ?_|apply Rx.rt ?_|apply zj ?_)
 ·have hlt:i < p.arrays.length:=by simpa using hb
  have hgx:p.arrays[i]?=some p.arrays[i]:=List.getElem?_eq_getElem hlt
  have hsm:=zil (List.getElem_mem hlt)
  have hdr:(p.arrays.drop i).all (fun a=>yA a.name)=(yA p.arrays[i].name&&(p.arrays.drop (i+1)).all (fun a=>yA a.name)):=by rw[List.drop_eq_getElem_cons hlt,List.all_cons]
  repeat' (first
   | (apply Rx.nl ?_;clear hK K)|apply Rx.o ?_|apply Rx.on ?_|(apply Rx.call ?_;first|refine jM (kn _ (by omega) _) ?_)|(apply Rx.gd (fun hg hgp=>?_) (fun hg hgp=>?_)<;>try (cases hg;done))|(apply Rx.cd (fun hb hbp=>?_) (fun hb hbp=>?_)<;>try (cases hb;done))|apply Wp.seq ?_|(apply zd fun K hK=>?_)|apply Wp.block ?_|apply zh ?_|apply Rx.rt ?_|apply zj ?_)
  all_goals (first|(refine⟨eI,_,eR,?_⟩;(try simp only[zp]);rw[wfP,hJ,hdr];(try simp only[Bool.not_eq_true',Bool.not_eq_false']at *);simp only[*,decide_true,decide_false,Bool.false_or,Bool.or_false,Bool.true_or,Bool.or_true,Bool.false_and,Bool.and_false,Bool.true_and,Bool.and_true,Bool.not_true,Bool.not_false,if_true,if_false,Int.reduceEq];done)|skip)
  refine⟨by omega,eL,eL,eN,(by simp only[sB,Nat.reduceBEq, *];exact z7 (n:=p.arrays.length) (by omega) (by omega)),?_⟩
  rw[hJ,hdr];(try simp only[Bool.not_eq_true',Bool.not_eq_false']at *);simp only[*,decide_true,decide_false,Bool.false_or,Bool.or_false,Bool.true_or,Bool.or_true,Bool.false_and,Bool.and_false,Bool.true_and,Bool.and_true,Bool.not_true,Bool.not_false,if_true,if_false,Int.reduceEq]
 ·have hie:i=p.arrays.length:=by simp at hb;omega
  rw[hie,List.drop_length]at hJ
  have hJ':p.arrays.all (fun a=>yA a.name)=true:=hJ
  clear hJ hie hsI hi
  refine yj [20,21] [0] 22 p.funcs.length (fun i E H=>p.funcs.all zd2=(p.funcs.drop i).all zd2) eE (by simp) ?_
  rintro i E H3 hi hcE hrH hnH hsI hJ
  (try simp only[zk,zl,and_true,sB,sO,Nat.reduceBEq,Nat.reduceAdd,Nat.reduceLeDiff,tyF, *]at hcE)
  (try simp only[zk,zl,and_true,sB,sO,Nat.reduceBEq,Nat.reduceAdd,Nat.reduceLeDiff,tyF, *]at hrH)
  (try simp only[zb,ze,zM,Nat.zero_add,Nat.reduceAdd]at hnH)
  have hB0:(0 == H3.next)=false:=zF (by omega)
  have hC0:(H3.next == 0)=false:=zF (by omega)
  repeat' (first
   | (apply Rx.nl ?_;clear hK K)|apply Rx.o ?_|apply Rx.on ?_|(apply Rx.gd (fun hg hgp=>?_) (fun hg hgp=>?_)<;>try (cases hg;done))|(apply Rx.cd (fun hb hbp=>?_) (fun hb hbp=>?_)<;>try (cases hb;done))|apply Wp.seq ?_|(apply zd fun K hK=>?_)|apply Wp.block ?_|apply zh ?_|apply Rx.rt ?_|apply zj ?_)
  ·have hlt:i < p.funcs.length:=by simpa using hb
   have hgx:p.funcs[i]?=some p.funcs[i]:=List.getElem?_eq_getElem hlt
   have hsm:=zbz (List.getElem_mem hlt)
   have hsz:p.funcs[i].sz=1+p.funcs[i].name.length+yL p.funcs[i].params+yL p.funcs[i].locals+zy p.funcs[i].body+p.funcs[i].value.sz:=rfl
   have hdr:(p.funcs.drop i).all zd2=(zd2 p.funcs[i]&&(p.funcs.drop (i+1)).all zd2):=by rw[List.drop_eq_getElem_cons hlt,List.all_cons]
   have hfn:zd2 p.funcs[i]=(yA p.funcs[i].name&&p.funcs[i].params.all yA&&p.funcs[i].locals.all yA&&zaK p.funcs[i].body&&wfE p.funcs[i].value):=by rw[zd2,zlY]
   repeat' (first
    | (apply Rx.nl ?_;clear hK K)|apply Rx.o ?_|apply Rx.on ?_|(apply Rx.call ?_;first|refine jM (kn _ (by omega) _) ?_|refine jM (ks _ (by omega) _) ?_)|(apply Rx.gd (fun hg hgp=>?_) (fun hg hgp=>?_)<;>try (cases hg;done))|(apply Rx.cd (fun hb hbp=>?_) (fun hb hbp=>?_)<;>try (cases hb;done))|apply Wp.seq ?_|(apply zd fun K hK=>?_)|apply Wp.block ?_|apply zh ?_|apply Rx.rt ?_|apply zj ?_)
   ·refine WpL.call rfl eVk eAk ?_;simp only[List.cons_append,List.nil_append,List.append_nil]
    refine zu.mono ?_ (znn (fun _=>rfl) (fun _=>rfl) ⟨fun _=>rfl,rfl⟩ ⟨fun _=>rfl,rfl⟩ p.funcs[i].value (by omega) _)
    rintro v H4 ⟨rfl,hf4⟩
    have hn4:=hf4.next
    simp only[ze,zb]at hn4
    have g4:H4.get H3.next=some (.cells p.funcs[i].cells 0 true):=by rw[hf4.get _ (Nat.zero_le _) (by simp only[ze,zb];omega),Hp.get_set,if_pos rfl]
    have g40:H4.get 0=some (.cells p.cells 0 true):=by rw[hf4.get _ (Nat.zero_le _) (by simp only[ze,zb];omega),Hp.get_set,if_neg (by omega),za,if_neg (by omega)];exact hrH
    dsimp only[zA]
    repeat' (first
     | (apply Rx.nl ?_;clear hK K)|apply Rx.o ?_|apply Rx.on ?_|(apply Rx.gd (fun hg hgp=>?_) (fun hg hgp=>?_)<;>try (cases hg;done))|(apply Rx.cd (fun hb hbp=>?_) (fun hb hbp=>?_)<;>try (cases hb;done))|apply Wp.seq ?_|(apply zd fun K hK=>?_)|apply Wp.block ?_|apply zh ?_|apply Rx.rt ?_|apply zj ?_)
    ·refine WpL.call rfl eVk eAk ?_;simp only[List.cons_append,List.nil_append,List.append_nil]
     refine zu.mono ?_ (zaB (yD (fun _=>rfl) rfl) (I:=fun (_:Unit) _=>True) (fun _ _ _ _ _=>trivial) zrt (zy p.funcs[i].body+1) p.funcs[i].body (by omega) 0 () H4 (by omega) (Nat.zero_le _) trivial)
     rintro v H5 ⟨rfl,hf5,_⟩
     have hn5:=hf5.next
     have g50:H5.get 0=some (.cells p.cells 0 true):=by rw[hf5.get _ (Nat.zero_le _) (by omega)];exact g40
     rw[zf4]
     dsimp only[zA]
     repeat' (first
      | (apply Rx.nl ?_;clear hK K)|apply Rx.o ?_|apply Rx.on ?_|(apply Rx.gd (fun hg hgp=>?_) (fun hg hgp=>?_)<;>try (cases hg;done))|(apply Rx.cd (fun hb hbp=>?_) (fun hb hbp=>?_)<;>try (cases hb;done))|apply Wp.seq ?_|(apply zd fun K hK=>?_)|apply Wp.block ?_|apply zh ?_|apply Rx.rt ?_|apply zj ?_)
     all_goals (first|(refine⟨eI,_,eR,?_⟩;(try simp only[zp]);rw[wfP,hJ',hJ,hdr,hfn];(try simp only[Bool.not_eq_true',Bool.not_eq_false']at *);simp only[*,decide_true,decide_false,Bool.false_or,Bool.or_false,Bool.true_or,Bool.or_true,Bool.false_and,Bool.and_false,Bool.true_and,Bool.and_true,Bool.not_true,Bool.not_false,if_true,if_false,Int.reduceEq];done)|skip)
     refine⟨by omega,eL,eL,eN,(by simp only[sB,Nat.reduceBEq, *];exact z7 (n:=p.funcs.length) (by omega) (by omega)),?_⟩
     rw[hJ,hdr,hfn];(try simp only[Bool.not_eq_true',Bool.not_eq_false']at *);simp only[*,decide_true,decide_false,Bool.false_or,Bool.or_false,Bool.true_or,Bool.or_true,Bool.false_and,Bool.and_false,Bool.true_and,Bool.and_true,Bool.not_true,Bool.not_false,if_true,if_false,Int.reduceEq]
    all_goals skip
    all_goals (first|(refine⟨eI,_,eR,?_⟩;(try simp only[zp]);rw[wfP,hJ',hJ,hdr,hfn];(try simp only[Bool.not_eq_true',Bool.not_eq_false']at *);simp only[*,decide_true,decide_false,Bool.false_or,Bool.or_false,Bool.true_or,Bool.or_true,Bool.false_and,Bool.and_false,Bool.true_and,Bool.and_true,Bool.not_true,Bool.not_false,if_true,if_false,Int.reduceEq];done)|skip)
   all_goals skip
   all_goals (first|(refine⟨eI,_,eR,?_⟩;(try simp only[zp]);rw[wfP,hJ',hJ,hdr,hfn];(try simp only[Bool.not_eq_true',Bool.not_eq_false']at *);simp only[*,decide_true,decide_false,Bool.false_or,Bool.or_false,Bool.true_or,Bool.or_true,Bool.false_and,Bool.and_false,Bool.true_and,Bool.and_true,Bool.not_true,Bool.not_false,if_true,if_false,Int.reduceEq];done)|skip)
  ·all_goals (refine⟨eI,_,eR,?_⟩;try simp only[zp])
   have hie:i=p.funcs.length:=by simp at hb;omega
   rw[hie,List.drop_length]at hJ
   have hJ2:p.funcs.all zd2=true:=hJ
   rw[wfP,hJ',hJ2];rfl)
end Go.Proofs.Ytpbcimfiofmoeaa
namespace Go.Proofs.Ytpbcimfiofmoeaa
set_option maxRecDepth 20000
set_option maxRecDepth 20000
open Go Go.Ab
namespace tyP4h
def tyF:=And.intro @zfG (And.intro @zgk (@zcp))
end tyP4h
open tyP4h
noncomputable def code22:{ c:SC // slim 16 (Try.f22.body.getD .skip)=c }:=by
 refine⟨?_,?_⟩
 rotate_left
 ·simp only[Try.f22,Option.getD_some,slim,zT,zR,zY,zZ,Nat.blt,Nat.ble]
  rfl
noncomputable def enLim:En:=⟨43,false,spP (fun p=>p.sz < 2 ^ 36) prE fun p=>.bool (zdW p)⟩
theorem zno (ρ:Nat→Int) (p:Pr) (hz:p.sz < 2 ^ 36):Con Try.prog ρ 43 (prE p) (.bool (zdW p)):=yO fit (pls:=pls) (l:=[]) trivial (.cons (.agg p.pure) .nil) (.bool _) (zpq ⟨ju _,ju _,ju _,ju _⟩ (ju _) (ju _) (ju _) p (by omega))
theorem zrv (ρ:Nat→Int):zaF Try.prog ρ enLim:=yW fun p hp=>zno ρ p hp
noncomputable def enWfP:En:=⟨44,false,spP (fun p=>p.sz < 2 ^ 36) prE fun p=>.bool (wfP p)⟩
theorem zrw (ρ:Nat→Int):zaF Try.prog ρ enWfP:=yW fun p hp=>ziJ ρ p hp
noncomputable def zrx:En:=⟨45,false,spP (fun p=>p.sz < 2 ^ 36) prE fun p=>.bool (zhh p)⟩
theorem zpt (ρ:Nat→Int):zaF Try.prog ρ zrx:=yW fun p hp=>ziu ρ p hp
noncomputable def enRsl:En:=⟨46,false,spP (fun p=>p.sz < 2 ^ 36) prE fun p=>.int .i64 (zm5 p)⟩
theorem zry (ρ:Nat→Int):zaF Try.prog ρ enRsl:=yW fun p hp=>zlV ρ p hp
noncomputable def zgE:List En:=[enLim,enWfP,zrx,enRsl]
theorem zpu (ρ:Nat→Int):zdC Try.prog ρ zgE:=⟨zrv ρ,zrw ρ,zpt ρ,zry ρ,trivial⟩
theorem znp (ρ:Nat→Int) (p:Pr) (hz:p.sz < 2 ^ 36):Con Try.prog ρ 22 (prE p) (.int .i64 (yH p)):=yO fit (pls:=pls) (zpu ρ) (.cons (.agg p.pure) .nil) (.int _ _) (by
 have hw:Plain (zJ pls zgE) 22:=yD (fun _=>rfl) rfl
 have kl:∀ H,zu Try.prog (zJ pls zgE) 43 [.agg p.cells] H fun v H'=>v=.bool (zdW p)∧H'=H:=fun H=>yd (enc:=prE) (out:=fun p=>.bool (zdW p)) zcC (x:=p) rfl hz
 have kw:∀ H,zu Try.prog (zJ pls zgE) 44 [.agg p.cells] H fun v H'=>v=.bool (wfP p)∧H'=H:=fun H=>yd (enc:=prE) (out:=fun p=>.bool (wfP p)) zcC (x:=p) rfl hz
 have kd:∀ H,zu Try.prog (zJ pls zgE) 45 [.agg p.cells] H fun v H'=>v=.bool (zhh p)∧H'=H:=fun H=>yd (enc:=prE) (out:=fun p=>.bool (zhh p)) zcC (x:=p) rfl hz
 have kr:∀ H,zu Try.prog (zJ pls zgE) 46 [.agg p.cells] H fun v H'=>v=.int .i64 (zm5 p)∧H'=H:=fun H=>yd (enc:=prE) (out:=fun p=>.int .i64 (zm5 p)) zcC (x:=p) rfl hz
 rw[prE,← zlK]
 refine zi (M:=16) (rs:=[.tmp 2]) (hw.call _) hw.ice hw.froz Try.func22 rfl rfl code22.2 rfl ?_;dsimp only[code22,zH,Nat.reduceAdd]
 repeat' (first
  | (apply Rx.nl ?_;clear hK K)|apply Rx.o ?_|(apply Rx.call ?_;first|refine jM (kl _) ?_|refine jM (kw _) ?_|refine jM (kd _) ?_|refine jM (kr _) ?_)|(apply Rx.cd (fun hb hbp=>?_) (fun hb hbp=>?_)<;>try (cases hb;done))|apply Wp.seq ?_|(apply zd fun K hK=>?_)|apply Wp.block ?_|apply zh ?_|apply Rx.rt ?_)
 all_goals
  all_goals (refine⟨eI,_,eR,?_⟩;try simp only[zp])
  rw[zis]
  (try simp only[Bool.not_eq_true',Bool.not_eq_false']at *);simp only[Bool.true_eq_false,Bool.false_eq_true, *,decide_true,decide_false,Bool.false_or,Bool.or_false,Bool.true_or,Bool.or_true,Bool.false_and,Bool.and_false,Bool.true_and,Bool.and_true,Bool.not_true,Bool.not_false,if_true,if_false,Int.reduceEq])
end Go.Proofs.Ytpbcimfiofmoeaa
