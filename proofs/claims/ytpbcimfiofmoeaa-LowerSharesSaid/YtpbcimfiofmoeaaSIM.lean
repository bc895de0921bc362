/- Parts: W4f, W4g, W4h, W4i, W4j, W4k, P4a. -/
import Derived.Test.YtpbcimfiofmoeaaSIL
set_option linter.unusedSimpArgs false
set_option linter.unusedVariables false
set_option linter.unusedSectionVars false
set_option linter.defProp false
set_option maxHeartbeats 32000000
namespace Go.Proofs.Ytpbcimfiofmoeaa
set_option maxRecDepth 20000
set_option maxRecDepth 20000
open Go Go.Ab
namespace tyW4f
def tyF:=And.intro @tq3 (And.intro @tq5 (@tq9))
end tyW4f
open tyW4f
noncomputable def zvj:{ c:SC // slim 21 (Try.f151.body.getD .skip)=c }:=by
 refine⟨?_,?_⟩
 rotate_left
 ·simp only[Try.f151,Option.getD_some,slim,zT,zR,zY,zZ,Nat.blt,Nat.ble]
  rfl
noncomputable def zvk:{ c:SC // slim 9 (Try.f146.body.getD .skip)=c }:=by
 refine⟨?_,?_⟩
 rotate_left
 ·simp only[Try.f146,Option.getD_some,slim,zT,zR,zY,zZ,Nat.blt,Nat.ble]
  rfl
noncomputable def zvl:{ c:SC // slim 23 (Try.f144.body.getD .skip)=c }:=by
 refine⟨?_,?_⟩
 rotate_left
 ·simp only[Try.f144,Option.getD_some,slim,zT,zR,zY,zZ,Nat.blt,Nat.ble]
  rfl
noncomputable def zvm:{ c:SC // slim 34 (Try.f133.body.getD .skip)=c }:=by
 refine⟨?_,?_⟩
 rotate_left
 ·simp only[Try.f133,Option.getD_some,slim,zT,zR,zY,zZ,Nat.blt,Nat.ble]
  rfl
noncomputable def zvn:{ c:SC // slim 37 (Try.f147.body.getD .skip)=c }:=by
 refine⟨?_,?_⟩
 rotate_left
 ·simp only[Try.f147,Option.getD_some,slim,zT,zR,zY,zZ,Nat.blt,Nat.ble]
  rfl
theorem zlW {cfg:Cfg} (hw:Plain cfg 151) (n:Int) (H:Hp):zu Try.prog cfg 151 [.int .u8 n] H fun v H'=>v=.bool (zfL n)∧H'=H:=by
 refine zi (M:=21) (rs:=[.tmp 2]) (hw.call _) hw.ice hw.froz Try.func151 rfl rfl zvj.2 rfl ?_;dsimp only[zvj,zH,Nat.reduceAdd]
 repeat' (first
  | (apply Rx.nl ?_;clear hK K)|apply Rx.o ?_|apply Rx.gu ?_|(apply Rx.gd (fun hg hgp=>?_) (fun hg hgp=>?_)<;>try (cases hg;done))|apply Wp.seq ?_|(apply zd fun K hK=>?_)|apply Rx.rt ?_)
 all_goals (refine⟨eI,_,eR,?_⟩;try simp only[zp])
 all_goals (refine⟨?_,by first|rfl|trivial⟩;simp_all[zfL]<;>omega)
theorem zff {cfg:Cfg} (hw:Plain cfg 146) (n:Int) (H:Hp):zu Try.prog cfg 146 [.int .u8 n] H fun v H'=>v=.bool (ze3 n)∧H'=H:=by
 refine zi (M:=9) (rs:=[.tmp 2]) (hw.call _) hw.ice hw.froz Try.func146 rfl rfl zvk.2 rfl ?_;dsimp only[zvk,zH,Nat.reduceAdd]
 repeat' (first
  | (apply Rx.nl ?_;clear hK K)|apply Rx.o ?_|(apply Rx.gd (fun hg hgp=>?_) (fun hg hgp=>?_)<;>try (cases hg;done))|apply Wp.seq ?_|(apply zd fun K hK=>?_)|apply Rx.rt ?_)
 all_goals (refine⟨eI,_,eR,?_⟩;try simp only[zp])
 all_goals (refine⟨?_,by first|rfl|trivial⟩;simp_all[ze3]<;>omega)
theorem zne {cfg:Cfg} (hw:Plain cfg 144) (hl:Plain cfg 151) (hd:Plain cfg 146) (s:List UInt8) (hs:s.length < 2 ^ 60) (H:Hp) :
 zu Try.prog cfg 144 [.str s] H fun v H'=>v=.int .i64 (j5 s)∧H'=H:=by
 refine zi (M:=23) (rs:=[.tmp 2]) (hw.call _) hw.ice hw.froz Try.func144 rfl rfl zvl.2 rfl ?_;dsimp only[zvl,zH,Nat.reduceAdd]
 repeat' (first
  | (apply Rx.nl ?_;clear hK K)|apply Rx.o ?_|apply Rx.gu ?_|(apply Rx.gd (fun hg hgp=>?_) (fun hg hgp=>?_)<;>try (cases hg;done))|(apply Rx.cd (fun hb hbp=>?_) (fun hb hbp=>?_)<;>try (cases hb;done))|apply Wp.seq ?_|(apply zd fun K hK=>?_)|apply Wp.block ?_|apply zh ?_|apply Rx.rt ?_|apply zj ?_)
 refine zaq (fun i E H'=>j5 s=i+j5 (s.drop i)∧E.at 0=.str s∧E.at 3=.int .i64 i∧H'=H) s.length ?_ ?_
 ·rintro i E H' hi ⟨hc,h0,h3,rfl⟩
  repeat' (first
   | (apply Rx.nl ?_;clear hK K)|apply Rx.o ?_|apply Rx.gu ?_|(apply Rx.gd (fun hg hgp=>?_) (fun hg hgp=>?_)<;>try (cases hg;done))|(apply Rx.cd (fun hb hbp=>?_) (fun hb hbp=>?_)<;>try (cases hb;done))|apply Wp.seq ?_|(apply zd fun K hK=>?_)|apply Wp.block ?_|apply zh ?_|apply Rx.rt ?_|apply zj ?_)
  ·have hlt:i < s.length:=by omega
   have hgx:s[i]?=some s[i]:=List.getElem?_eq_getElem hlt
   have hdr:j5 (s.drop i)=if zdX s[i]then j5 (s.drop (i+1))+1 else 0:=by rw[List.drop_eq_getElem_cons hlt,j5]
   repeat' (first
    | (apply Rx.nl ?_;clear hK K)|apply Rx.o ?_|apply Rx.gu ?_|(apply Rx.gd (fun hg hgp=>?_) (fun hg hgp=>?_)<;>try (cases hg;done))|(apply Rx.cd (fun hb hbp=>?_) (fun hb hbp=>?_)<;>try (cases hb;done))|apply Wp.seq ?_|(apply zd fun K hK=>?_)|apply Wp.block ?_|apply zh ?_|apply Rx.rt ?_|apply zj ?_)
   refine WpL.call rfl eVk eAk ?_;simp only[List.cons_append,List.nil_append,List.append_nil]
   refine zu.mono ?_ (zlW hl s[i].toNat H')
   rintro v _ ⟨rfl,rfl⟩
   dsimp only[zA]
   repeat' (first
    | (apply Rx.nl ?_;clear hK K)|apply Rx.o ?_|apply Rx.gu ?_|(apply Rx.gd (fun hg hgp=>?_) (fun hg hgp=>?_)<;>try (cases hg;done))|(apply Rx.cd (fun hb hbp=>?_) (fun hb hbp=>?_)<;>try (cases hb;done))|apply Wp.seq ?_|(apply zd fun K hK=>?_)|apply Wp.block ?_|apply zh ?_|apply Rx.rt ?_|apply zj ?_)
   ·refine WpL.call rfl eVk eAk ?_;simp only[List.cons_append,List.nil_append,List.append_nil]
    refine zu.mono ?_ (zff hd s[i].toNat _)
    rintro v _ ⟨rfl,rfl⟩
    dsimp only[zA]
    repeat' (first
     | (apply Rx.nl ?_;clear hK K)|apply Rx.o ?_|apply Rx.gu ?_|(apply Rx.gd (fun hg hgp=>?_) (fun hg hgp=>?_)<;>try (cases hg;done))|(apply Rx.cd (fun hb hbp=>?_) (fun hb hbp=>?_)<;>try (cases hb;done))|apply Wp.seq ?_|(apply zd fun K hK=>?_)|apply Wp.block ?_|apply zh ?_|apply Rx.rt ?_|apply zj ?_)
    ·have hwb:zdX s[i]=true:=by simp_all[zdX]
     refine⟨hlt,?_,eE,?_,rfl⟩
     ·rw[hc,hdr,hwb];simp;omega
     ·simp only[at_set,Nat.reduceBEq,cond_true,ya (show i < 2 ^ 62 by omega)]
    ·have hwb:zdX s[i]=false:=by simp_all[zdX]
     all_goals (refine⟨eI,_,eR,?_⟩;try simp only[zp])
     exact⟨by rw[hc,hdr,hwb];simp,by first|rfl|trivial⟩
   ·have hwb:zdX s[i]=true:=by simp_all[zdX]
    refine⟨hlt,?_,eE,?_,rfl⟩
    ·rw[hc,hdr,hwb];simp;omega
    ·simp only[at_set,Nat.reduceBEq,cond_true,ya (show i < 2 ^ 62 by omega)]
  ·all_goals (refine⟨eI,_,eR,?_⟩;try simp only[zp])
   have hie:i=s.length:=by omega
   refine⟨?_,by first|rfl|trivial⟩
   rw[hc,hie];simp[j5]
 ·exact⟨by simp,eE,eE,rfl⟩
theorem zg8 {cfg:Cfg} (hw:Plain cfg 133) (s:List UInt8) (hs:s.length < 2 ^ 60) (H:Hp) :
 zu Try.prog cfg 133 [.str s] H fun v H'=>v=.int .i64 (yI false s)∧H'=H:=by
 refine zi (M:=34) (rs:=[.tmp 2]) (hw.call _) hw.ice hw.froz Try.func133 rfl rfl zvm.2 rfl ?_;dsimp only[zvm,zH,Nat.reduceAdd]
 repeat' (first
  | (apply Rx.nl ?_;clear hK K)|apply Rx.o ?_|(apply Rx.gd (fun hg hgp=>?_) (fun hg hgp=>?_)<;>try (cases hg;done))|(apply Rx.cd (fun hb hbp=>?_) (fun hb hbp=>?_)<;>try (cases hb;done))|apply Wp.seq ?_|(apply zd fun K hK=>?_)|apply Wp.block ?_|apply zh ?_|apply Rx.rt ?_|apply zj ?_)
 refine Wp.loop (fun n E H'=>∃ i:Nat,n=s.length - i∧i≤s.length∧yI false s=i+yI false (s.drop i)∧E.at 0=.str s∧E.at 3=.int .i64 i∧H'=H) ?_ (n:=s.length) ?_
 ·rintro n E H' ⟨i,rfl,hi,hc,h0,h3,rfl⟩
  repeat' (first
   | (apply Rx.nl ?_;clear hK K)|apply Rx.o ?_|(apply Rx.gd (fun hg hgp=>?_) (fun hg hgp=>?_)<;>try (cases hg;done))|(apply Rx.cd (fun hb hbp=>?_) (fun hb hbp=>?_)<;>try (cases hb;done))|apply Wp.seq ?_|(apply zd fun K hK=>?_)|apply Wp.block ?_|apply zh ?_|apply Rx.rt ?_|apply zj ?_)
  ·have hlt:i < s.length:=by omega
   have hgx:s[i]?=some s[i]:=List.getElem?_eq_getElem hlt
   have hdr:yI false (s.drop i)=if zab s[i]then yI false (s.drop (i+1))+1 else if s[i].toNat=35 then yI true (s.drop (i+1))+1 else 0:=by rw[List.drop_eq_getElem_cons hlt,yI]
   repeat' (first
    | (apply Rx.nl ?_;clear hK K)|apply Rx.o ?_|(apply Rx.gd (fun hg hgp=>?_) (fun hg hgp=>?_)<;>try (cases hg;done))|(apply Rx.cd (fun hb hbp=>?_) (fun hb hbp=>?_)<;>try (cases hb;done))|apply Wp.seq ?_|(apply zd fun K hK=>?_)|apply Wp.block ?_|apply zh ?_|apply Rx.rt ?_|apply zj ?_)
   ·have hbl:zab s[i]=true:=by unfold zab;simp;omega
    refine⟨s.length - (i+1),by omega,i+1,rfl,by omega,?_,eE,?_,rfl⟩
    ·rw[hc,hdr,if_pos hbl];omega
    ·simp only[at_set,Nat.reduceBEq,cond_true,ya (show i < 2 ^ 62 by omega)]
   ·have hbl:zab s[i]=true:=by unfold zab;simp;omega
    refine⟨s.length - (i+1),by omega,i+1,rfl,by omega,?_,eE,?_,rfl⟩
    ·rw[hc,hdr,if_pos hbl];omega
    ·simp only[at_set,Nat.reduceBEq,cond_true,ya (show i < 2 ^ 62 by omega)]
   ·have hbl:zab s[i]=true:=by unfold zab;simp;omega
    refine⟨s.length - (i+1),by omega,i+1,rfl,by omega,?_,eE,?_,rfl⟩
    ·rw[hc,hdr,if_pos hbl];omega
    ·simp only[at_set,Nat.reduceBEq,cond_true,ya (show i < 2 ^ 62 by omega)]
   ·have hbl:zab s[i]=true:=by unfold zab;simp;omega
    refine⟨s.length - (i+1),by omega,i+1,rfl,by omega,?_,eE,?_,rfl⟩
    ·rw[hc,hdr,if_pos hbl];omega
    ·simp only[at_set,Nat.reduceBEq,cond_true,ya (show i < 2 ^ 62 by omega)]
   ·have hb35:s[i].toNat=35:=by omega
    have hbl:zab s[i]=false:=by unfold zab;simp;omega
    have hln:za4 (s.drop i)=za4 (s.drop (i+1))+1:=by rw[List.drop_eq_getElem_cons hlt,za4,if_neg (by omega)]
    have hsp:yI false s=i+za4 (s.drop i)+yI false (s.drop (i+za4 (s.drop i))):=by
     rw[hc,hdr,hbl,if_neg (by simp),if_pos hb35,zg1,List.drop_drop,hln,show i+1+za4 (s.drop (i+1))=i+(za4 (s.drop (i+1))+1) by omega];omega
    have hle:=zls (s.drop i)
    rw[List.length_drop]at hle
    refine Wp.loop (fun n E H''=>∃ j:Nat,n=s.length - j∧i≤j∧j≤s.length∧i+za4 (s.drop i)=j+za4 (s.drop j)∧E.at 0=.str s∧E.at 3=.int .i64 j∧H''=H') ?_ (n:=s.length - i) ?_
    ·rintro n E2 H2 ⟨j,rfl,hij,hj,hlj,k0,k3,rfl⟩
     repeat' (first
      | (apply Rx.nl ?_;clear hK K)|apply Rx.o ?_|(apply Rx.gd (fun hg hgp=>?_) (fun hg hgp=>?_)<;>try (cases hg;done))|(apply Rx.cd (fun hb hbp=>?_) (fun hb hbp=>?_)<;>try (cases hb;done))|apply Wp.seq ?_|(apply zd fun K hK=>?_)|apply Wp.block ?_|apply zh ?_|apply Rx.rt ?_|apply zj ?_)
     ·have hlt2:j < s.length:=by omega
      have hgx2:s[j]?=some s[j]:=List.getElem?_eq_getElem hlt2
      have hdj:za4 (s.drop j)=if s[j].toNat=10 then 0 else za4 (s.drop (j+1))+1:=by rw[List.drop_eq_getElem_cons hlt2,za4]
      repeat' (first
       | (apply Rx.nl ?_;clear hK K)|apply Rx.o ?_|(apply Rx.gd (fun hg hgp=>?_) (fun hg hgp=>?_)<;>try (cases hg;done))|(apply Rx.cd (fun hb hbp=>?_) (fun hb hbp=>?_)<;>try (cases hb;done))|apply Wp.seq ?_|(apply zd fun K hK=>?_)|apply Wp.block ?_|apply zh ?_|apply Rx.rt ?_|apply zj ?_)
      ·refine⟨s.length - (j+1),by omega,j+1,rfl,by omega,by omega,?_,eE,?_,rfl⟩
       ·rw[hlj,hdj,if_neg (by simp_all;omega)];omega
       ·simp only[at_set,Nat.reduceBEq,cond_true,ya (show j < 2 ^ 62 by omega)]
      ·have h10:s[j].toNat=10:=by simp_all;omega
       rw[hdj,if_pos h10,Nat.add_zero]at hlj
       refine⟨s.length - j,by omega,j,rfl,by omega,?_,eE,eE,by first|rfl|trivial⟩
       rw[hsp,hlj]
     ·have hje:j=s.length:=by omega
      have h0j:za4 (s.drop j)=0:=by rw[hje];simp[za4]
      rw[h0j,Nat.add_zero]at hlj
      refine⟨s.length - j,by omega,j,rfl,by omega,?_,eE,eE,by first|rfl|trivial⟩
      rw[hsp,hlj]
    ·exact⟨i,rfl,by omega,by omega,rfl,eE,eE,rfl⟩
   ·have hbl:zab s[i]=false:=by unfold zab;simp;omega
    all_goals (refine⟨eI,_,eR,?_⟩;try simp only[zp])
    refine⟨?_,by first|rfl|trivial⟩
    rw[hc,hdr,hbl,if_neg (by simp),if_neg (by omega)];simp
  ·all_goals (refine⟨eI,_,eR,?_⟩;try simp only[zp])
   have hie:i=s.length:=by omega
   refine⟨?_,by first|rfl|trivial⟩
   rw[hc,hie];simp[yI]
 ·exact⟨0,by simp,by omega,by simp,eE,eE,rfl⟩
end Go.Proofs.Ytpbcimfiofmoeaa
namespace Go.Proofs.Ytpbcimfiofmoeaa
set_option maxRecDepth 20000
set_option maxRecDepth 20000
open Go Go.Ab
namespace tyW4g
def tyF:=And.intro @tq3 (And.intro @tq9 (And.intro @zmR (And.intro @tq63 (And.intro @tq90 (And.intro @znP (And.intro @tq5 (And.intro @tq182 (And.intro @zsT (And.intro @zh6 (@Try.underlying9))))))))))
end tyW4g
open tyW4g
noncomputable def zvo:{ c:SC // slim 35 (Try.f145.body.getD .skip)=c }:=by
 refine⟨?_,?_⟩
 rotate_left
 ·simp only[Try.f145,Option.getD_some,slim,zT,zR,zY,zZ,Nat.blt,Nat.ble]
  rfl
noncomputable def zvp:{ c:SC // slim 41 (Try.f134.body.getD .skip)=c }:=by
 refine⟨?_,?_⟩
 rotate_left
 ·simp only[Try.f134,Option.getD_some,slim,zT,zR,zY,zZ,Nat.blt,Nat.ble]
  rfl
noncomputable def zvq:{ c:SC // slim 49 (Try.f112.body.getD .skip)=c }:=by
 refine⟨?_,?_⟩
 rotate_left
 ·simp only[Try.f112,Option.getD_some,slim,zT,zR,zY,zZ,Nat.blt,Nat.ble]
  rfl
theorem ziH {cfg:Cfg} (hw:Plain cfg 147) (hd:Plain cfg 146) (s:List UInt8) (h0:s≠[]) (hs:s.length < 2 ^ 60) (H:Hp) :
 zu Try.prog cfg 147 [.str s] H fun v H'=>(∃ b,v=.bool b)∧H'=H:=by
 have hpos:0 < s.length:=List.length_pos_iff.2 h0
 have hg0:s[0]?=some s[0]:=List.getElem?_eq_getElem hpos
 refine zi (M:=37) (rs:=[.tmp 2]) (hw.call _) hw.ice hw.froz Try.func147 rfl rfl zvn.2 rfl ?_;dsimp only[zvn,zH,Nat.reduceAdd]
 repeat' (first
  | (apply Rx.nl ?_;clear hK K)|apply Rx.o ?_|(apply Rx.cd (fun hb hbp=>?_) (fun hb hbp=>?_)<;>try (cases hb;done))|apply Wp.seq ?_|(apply zd fun K hK=>?_)|apply Wp.block ?_|apply zh ?_|apply Rx.rt ?_|apply zj ?_)
 refine zaq (fun i E H'=>E.at 0=.str s∧E.at 3=.int .i64 i∧H'=H) s.length ?_ ?_
 ·rintro i E H' hi ⟨k0,k3,rfl⟩
  repeat' (first
   | (apply Rx.nl ?_;clear hK K)|apply Rx.o ?_|(apply Rx.cd (fun hb hbp=>?_) (fun hb hbp=>?_)<;>try (cases hb;done))|apply Wp.seq ?_|(apply zd fun K hK=>?_)|apply Wp.block ?_|apply zh ?_|apply Rx.rt ?_|apply zj ?_)
  ·have hlt:i < s.length:=by omega
   have hgx:s[i]?=some s[i]:=List.getElem?_eq_getElem hlt
   repeat' (first
    | (apply Rx.nl ?_;clear hK K)|apply Rx.o ?_|(apply Rx.cd (fun hb hbp=>?_) (fun hb hbp=>?_)<;>try (cases hb;done))|apply Wp.seq ?_|(apply zd fun K hK=>?_)|apply Wp.block ?_|apply zh ?_|apply Rx.rt ?_|apply zj ?_)
   refine WpL.call rfl eVk eAk ?_;simp only[List.cons_append,List.nil_append,List.append_nil]
   refine zu.mono ?_ (zff hd s[i].toNat H')
   rintro v _ ⟨rfl,rfl⟩
   dsimp only[zA]
   repeat' (first
    | (apply Rx.nl ?_;clear hK K)|apply Rx.o ?_|(apply Rx.cd (fun hb hbp=>?_) (fun hb hbp=>?_)<;>try (cases hb;done))|apply Wp.seq ?_|(apply zd fun K hK=>?_)|apply Wp.block ?_|apply zh ?_|apply Rx.rt ?_|apply zj ?_)
   ·all_goals (refine⟨eI,_,eR,?_⟩;try simp only[zp])
    exact⟨⟨_,rfl⟩,by first|rfl|trivial⟩
   ·refine⟨hlt,eE,?_,by first|rfl|trivial⟩
    simp only[at_set,Nat.reduceBEq,cond_true,ya (show i < 2 ^ 62 by omega)]
  ·repeat' (first
    | (apply Rx.nl ?_;clear hK K)|apply Ry.o ?_|apply Ry.gu ?_|(apply Ry.gd (fun hg hgp=>?_) (fun hg hgp=>?_)<;>try (cases hg;done))|apply Wp.seq ?_|(apply zd fun K hK=>?_)|apply Wp.block ?_|apply zh ?_|apply Rx.rt ?_|apply zj ?_)
   all_goals (refine⟨eI,_,eR,?_⟩;try simp only[zp])
   all_goals exact⟨⟨_,rfl⟩,by first|rfl|trivial⟩
 ·exact⟨eE,eE,rfl⟩
def symsL:List (List UInt8):=[[62,62,62],[60,60],[62,62],[60,61],[62,61],[61,61],[33,61]]
theorem zkt {cfg:Cfg} (hw:Plain cfg 145) (hplan:∀ id,cfg.plan 145 id=.text) (s:List UInt8) (h0:s≠[]) (hs:s.length < 2 ^ 60) (H:Hp) :
 zu Try.prog cfg 145 [.str s] H fun v H'=>(∃ n:Nat,v=.int .i64 n∧n≤s.length)∧H'=H:=by
 have hpos:0 < s.length:=List.length_pos_iff.2 h0
 have hg0:s[0]?=some s[0]:=List.getElem?_eq_getElem hpos
 have hbld:yf Try.prog 182 [(0,.str [62,62,62]),(1,.str [60,60]),(2,.str [62,62]),(3,.str [60,61]),(4,.str [62,61]),(5,.str [61,61]),(6,.str [33,61])]=some (.agg [.str [62,62,62],.str [60,60],.str [62,62],.str [60,61],.str [62,61],.str [61,61],.str [33,61]]):=by kernel_rfl
 refine zi (M:=35) (rs:=[.tmp 2]) (hw.call _) hw.ice hw.froz Try.func145 rfl rfl zvo.2 rfl ?_;dsimp only[zvo,zH,Nat.reduceAdd]
 repeat' (first
  | (apply Rx.nl ?_;clear hK K)|apply Rx.o ?_|(apply Rx.gd (fun hg hgp=>?_) (fun hg hgp=>?_)<;>try (cases hg;done))|(apply Rx.cd (fun hb hbp=>?_) (fun hb hbp=>?_)<;>try (cases hb;done))|apply Wp.seq ?_|(apply zd fun K hK=>?_)|(apply yq 10 fun K hK=>?_)|apply Wp.block ?_|apply zh ?_|apply Rx.rt ?_|apply zj ?_)
 refine zaq (fun i E H'=>E.at 0=.str s∧E.at 6=.agg [.str [62,62,62],.str [60,60],.str [62,62],.str [60,61],.str [62,61],.str [61,61],.str [33,61]]∧E.at 7=.int .i64 i∧H'=H) 7 ?_ ?_
 ·rintro i E H' hi ⟨k0,k6,k7,rfl⟩
  repeat' (first
   | (apply Rx.nl ?_;clear hK K)|apply Rx.o ?_|(apply Rx.gd (fun hg hgp=>?_) (fun hg hgp=>?_)<;>try (cases hg;done))|(apply Rx.cd (fun hb hbp=>?_) (fun hb hbp=>?_)<;>try (cases hb;done))|apply Wp.seq ?_|(apply zd fun K hK=>?_)|(apply yq 10 fun K hK=>?_)|apply Wp.block ?_|apply zh ?_|apply Rx.rt ?_|apply zj ?_)
  ·have hlt:i < 7:=by omega
   have hix:∃ w:List UInt8,zb1 Try.prog 182 (.agg [.str [62,62,62],.str [60,60],.str [62,62],.str [60,61],.str [62,61],.str [61,61],.str [33,61]]) (.int .i64 i)=some (.str w):=by
    refine⟨symsL.getD i [],?_⟩
    rcases (show i=0∨i=1∨i=2∨i=3∨i=4∨i=5∨i=6 by omega)with rfl|rfl|rfl|rfl|rfl|rfl|rfl<;>kernel_rfl
   obtain⟨w,hw1⟩:=hix
   repeat' (first
    | (apply Rx.nl ?_;clear hK K)|apply Rx.o ?_|(apply Rx.gd (fun hg hgp=>?_) (fun hg hgp=>?_)<;>try (cases hg;done))|(apply Rx.cd (fun hb hbp=>?_) (fun hb hbp=>?_)<;>try (cases hb;done))|apply Wp.seq ?_|(apply zd fun K hK=>?_)|(apply yq 10 fun K hK=>?_)|apply Wp.block ?_|apply zh ?_|apply Rx.rt ?_|apply zj ?_)
   ·have hwl:w.length≤s.length:=by omega
    repeat' (first
     | (apply Rx.nl ?_;clear hK K)|apply Rx.o ?_|(apply Rx.gd (fun hg hgp=>?_) (fun hg hgp=>?_)<;>try (cases hg;done))|(apply Rx.cd (fun hb hbp=>?_) (fun hb hbp=>?_)<;>try (cases hb;done))|apply Wp.seq ?_|(apply zd fun K hK=>?_)|(apply yq 10 fun K hK=>?_)|apply Wp.block ?_|apply zh ?_|apply Rx.rt ?_|apply zj ?_)
    ·all_goals (refine⟨eI,_,eR,?_⟩;try simp only[zp])
     exact⟨⟨w.length,rfl,hwl⟩,by first|rfl|trivial⟩
    ·refine⟨hlt,eE,eE,?_,by first|rfl|trivial⟩
     simp only[at_set,Nat.reduceBEq,cond_true,ya (show i < 2 ^ 62 by omega)]
   ·refine⟨hlt,eE,eE,?_,by first|rfl|trivial⟩
    simp only[at_set,Nat.reduceBEq,cond_true,ya (show i < 2 ^ 62 by omega)]
  ·repeat' (first
    | (apply Rx.nl ?_;clear hK K)|apply Rx.o ?_|(apply Rx.gd (fun hg hgp=>?_) (fun hg hgp=>?_)<;>try (cases hg;done))|(apply Rx.cd (fun hb hbp=>?_) (fun hb hbp=>?_)<;>try (cases hb;done))|apply Wp.seq ?_|(apply zd fun K hK=>?_)|(apply yq 10 fun K hK=>?_)|apply Wp.block ?_|apply zh ?_|apply Rx.rt ?_|apply zj ?_)
   refine zaq (fun i E H''=>E.at 0=.str s∧E.at 5=.int .i64 i∧H''=H') 23 ?_ ?_
   ·rintro j E H'' hj ⟨k0,k5,rfl⟩
    repeat' (first
     | (apply Rx.nl ?_;clear hK K)|apply Rx.o ?_|(apply Rx.gd (fun hg hgp=>?_) (fun hg hgp=>?_)<;>try (cases hg;done))|(apply Rx.cd (fun hb hbp=>?_) (fun hb hbp=>?_)<;>try (cases hb;done))|apply Wp.seq ?_|(apply zd fun K hK=>?_)|(apply yq 10 fun K hK=>?_)|apply Wp.block ?_|apply zh ?_|apply Rx.rt ?_|apply zj ?_)
    ·have hlt:j < 23:=by omega
     have hg1:∃ b,([43,45,42,47,37,38,124,94,126,33,60,62,61,63,58,59,44,40,41,123,125,91,93]:List UInt8)[j]?=some b:=by
      rw[List.getElem?_eq_getElem (by simpa using hlt)];exact⟨_,rfl⟩
     obtain⟨b,hg1⟩:=hg1
     repeat' (first
      | (apply Rx.nl ?_;clear hK K)|apply Ry.o ?_|(apply Ry.cd (fun hb hbp=>?_) (fun hb hbp=>?_)<;>try (cases hb;done))|apply Wp.seq ?_|(apply zd fun K hK=>?_)|(apply yq 10 fun K hK=>?_)|apply Wp.block ?_|apply zh ?_|apply Rx.rt ?_|apply zj ?_)
     ·all_goals (refine⟨eI,_,eR,?_⟩;try simp only[zp])
      exact⟨⟨1,rfl,hpos⟩,by first|rfl|trivial⟩
     ·refine⟨hlt,eE,?_,by first|rfl|trivial⟩
      simp only[at_set,Nat.reduceBEq,cond_true,ya (show j < 2 ^ 62 by omega)]
    ·all_goals (refine⟨eI,_,eR,?_⟩;try simp only[zp])
     exact⟨⟨0,rfl,Nat.zero_le _⟩,by first|rfl|trivial⟩
   ·exact⟨eE,eE,rfl⟩
 ·exact⟨eE,eE,eE,rfl⟩
end Go.Proofs.Ytpbcimfiofmoeaa
namespace Go.Proofs.Ytpbcimfiofmoeaa
set_option maxRecDepth 20000
set_option maxRecDepth 20000
open Go Go.Ab
namespace tyW4h
def tyF:=And.intro @tq3 (And.intro @tq9 (And.intro @znP (And.intro @zh6 (@Try.underlying9))))
end tyW4h
open tyW4h
structure Lexers (cfg:Cfg):Prop where
 let_:Plain cfg 151
 dig:Plain cfg 146
 word:Plain cfg 144
 space:Plain cfg 133
 num:Plain cfg 147
 sym:Plain cfg 145
 first:Plain cfg 134
 scan:Plain cfg 112
 plan:∀ id,cfg.plan 145 id=.text
 keep:cfg.keep 112=false
theorem zhx (a:Int) (x:List UInt8):yf Try.prog 119 [(0,.int .i64 a),(1,.str x)]=some (.agg [.int .i64 a,.str x,.int .i64 0]):=by kernel_rfl
theorem zhy:yf Try.prog 119 []=some (.agg [.int .i64 0,.str [],.int .i64 0]):=by kernel_rfl
theorem agg3 (a b c:AV):yV 3 [a,b,c]=some (.agg [a,b,c]):=rfl
theorem znf (H:Hp) (a b:HB):FrB 0 H ((H.alloc a).set H.next b):=((FrB.refl _ _).alloc _).set (.inl (Nat.le_refl _)) _
theorem zrn {cfg:Cfg} (hx:Lexers cfg) (s:List UInt8) (h0:s≠[]) (hs:s.length < 2 ^ 60) (H:Hp) :
 zu Try.prog cfg 134 [.str s] H fun v H'=>(∃ k e,v=.tup [.agg k.cells,.int .i64 e]∧zqz s k e)∧FrB 0 H H':=by
 have hw:=hx.first
 have hpos:0 < s.length:=List.length_pos_iff.2 h0
 have hg0:s[0]?=some s[0]:=List.getElem?_eq_getElem hpos
 have hwl:=zlr s
 refine zi (M:=41) (rs:=[.cell 2 119,.tmp 3]) (hw.call _) hw.ice hw.froz Try.func134 rfl rfl zvp.2 rfl ?_;dsimp only[zvp,zH,Nat.reduceAdd]
 repeat' (first
  | (apply Rx.nl ?_;clear hK K)|apply Rx.o ?_|apply Rx.on ?_|(apply Rx.cd (fun hb hbp=>?_) (fun hb hbp=>?_)<;>try (cases hb;done))|apply Wp.seq ?_|(apply zd fun K hK=>?_)|apply Wp.block ?_|apply zh ?_|apply Rx.rt ?_)
 refine WpL.call rfl eVk eAk ?_;simp only[List.cons_append,List.nil_append,List.append_nil]
 refine zu.mono ?_ (zne hx.word hx.let_ hx.dig s hs _)
 rintro v _ ⟨rfl,rfl⟩
 dsimp only[zA]
 have gh0:=@zhx
 have gh1:=@zhy
 repeat' (first
  | (apply Rx.nl ?_;clear hK K)|apply Ry.o ?_|(apply Ry.cd (fun hb hbp=>?_) (fun hb hbp=>?_)<;>try (cases hb;done))|apply Wp.seq ?_|(apply zd fun K hK=>?_)|apply Wp.block ?_|apply zh ?_|apply Rx.rt ?_)
 ·refine WpL.call rfl eVk eAk ?_;simp only[List.cons_append,List.nil_append,List.append_nil]
  refine zu.mono ?_ (zkt hx.sym hx.plan s h0 hs _)
  rintro v _ ⟨⟨n,rfl,hn⟩,rfl⟩
  dsimp only[zA]
  have gh0:=@zhx
  have gh1:=@zhy
  repeat' (first
   | (apply Rx.nl ?_;clear hK K)|apply Rx.o ?_|apply Rx.on ?_|(apply Rx.cd (fun hb hbp=>?_) (fun hb hbp=>?_)<;>try (cases hb;done))|apply Wp.seq ?_|(apply zd fun K hK=>?_)|apply Wp.block ?_|apply zh ?_|apply Rx.rt ?_)
  ·refine⟨eI,_,(by(try simp only[sB,sO,Nat.reduceBEq,Nat.reduceAdd,Nat.reduceLeDiff,tyF,zQ,yb,agg3, *]);first|done|with_reducible rfl),?_⟩;try simp only[zp]
   exact⟨⟨⟨0,[],0⟩,2,rfl,rfl,by simp,fun h1=>by omega⟩,znf _ _ _⟩
  ·refine⟨eI,_,(by(try simp only[sB,sO,Nat.reduceBEq,Nat.reduceAdd,Nat.reduceLeDiff,tyF,zQ,yb,agg3, *]);first|done|with_reducible rfl),?_⟩;try simp only[zp]
   refine⟨⟨⟨3,s.take n,0⟩,0,rfl,rfl,fun _=>⟨n,by omega,hn,rfl,by simp⟩,fun h1=>by omega⟩,znf _ _ _⟩
 ·refine WpL.call rfl eVk eAk ?_;simp only[List.cons_append,List.nil_append,List.append_nil]
  refine zu.mono ?_ (zff hx.dig s[0].toNat _)
  rintro v _ ⟨rfl,rfl⟩
  dsimp only[zA]
  have hsl:=zh6 (P:=Try.prog) (k:=.i64) (s:=s) Try.underlying9 hwl
  have gh0:=@zhx
  have gh1:=@zhy
  repeat' (first
   | (apply Rx.nl ?_;clear hK K)|apply Rx.o ?_|apply Rx.on ?_|(apply Rx.cd (fun hb hbp=>?_) (fun hb hbp=>?_)<;>try (cases hb;done))|apply Wp.seq ?_|(apply zd fun K hK=>?_)|apply Wp.block ?_|apply zh ?_|apply Rx.rt ?_)
  ·have hne:s.take (j5 s)≠[]:=by
    intro h
    have:=congrArg List.length h
    rw[List.length_take,Nat.min_eq_left hwl,List.length_nil]at this
    omega
   refine WpL.call rfl eVk eAk ?_;simp only[List.cons_append,List.nil_append,List.append_nil]
   refine zu.mono ?_ (ziH hx.num hx.dig (s.take (j5 s)) hne (by rw[List.length_take];omega) _)
   rintro v _ ⟨⟨ok,rfl⟩,rfl⟩
   dsimp only[zA]
   have gh0:=@zhx
   have gh1:=@zhy
   repeat' (first
    | (apply Rx.nl ?_;clear hK K)|apply Rx.o ?_|apply Rx.on ?_|(apply Rx.cd (fun hb hbp=>?_) (fun hb hbp=>?_)<;>try (cases hb;done))|apply Wp.seq ?_|(apply zd fun K hK=>?_)|apply Wp.block ?_|apply zh ?_|apply Rx.rt ?_)
   ·refine⟨eI,_,(by(try simp only[sB,sO,Nat.reduceBEq,Nat.reduceAdd,Nat.reduceLeDiff,tyF,zQ,yb,agg3, *]);first|done|with_reducible rfl),?_⟩;try simp only[zp]
    refine⟨⟨⟨0,[],0⟩,2,rfl,rfl,by simp,fun h1 h2 h3=>?_⟩,znf _ _ _⟩
    have:=h3 _ hg0
    simp_all
   ·refine⟨eI,_,(by(try simp only[sB,sO,Nat.reduceBEq,Nat.reduceAdd,Nat.reduceLeDiff,tyF,zQ,yb,agg3, *]);first|done|with_reducible rfl),?_⟩;try simp only[zp]
    refine⟨⟨⟨2,s.take (j5 s),0⟩,0,rfl,rfl,fun _=>⟨j5 s,by omega,hwl,rfl,by simp⟩,fun h1 h2 h3=>?_⟩,znf _ _ _⟩
    have:=h3 _ hg0
    simp_all
  ·refine⟨eI,_,(by(try simp only[sB,sO,Nat.reduceBEq,Nat.reduceAdd,Nat.reduceLeDiff,tyF,zQ,yb,agg3, *]);first|done|with_reducible rfl),?_⟩;try simp only[zp]
   exact⟨⟨⟨0,[],0⟩,6,rfl,rfl,by simp,fun h1 h2=>by omega⟩,znf _ _ _⟩
  ·refine⟨eI,_,(by(try simp only[sB,sO,Nat.reduceBEq,Nat.reduceAdd,Nat.reduceLeDiff,tyF,zQ,yb,agg3, *]);first|done|with_reducible rfl),?_⟩;try simp only[zp]
   refine⟨⟨⟨1,s.take (j5 s),0⟩,0,rfl,rfl,fun _=>⟨j5 s,by omega,hwl,rfl,fun _=>⟨rfl,by omega,fun b hb=>?_⟩⟩,fun _ _ _=>⟨rfl,rfl⟩⟩,znf _ _ _⟩
   rw[hg0]at hb
   simp only[Option.some.injEq]at hb
   subst hb
   assumption
end Go.Proofs.Ytpbcimfiofmoeaa
namespace Go.Proofs.Ytpbcimfiofmoeaa
set_option maxRecDepth 20000
set_option maxRecDepth 20000
open Go Go.Ab
namespace tyW4i
def tyF:=And.intro @tq3 (And.intro @tq9 (And.intro @zmR (And.intro @tq63 (And.intro @tq90 (@znP)))))
end tyW4i
open tyW4i
theorem zog (a b:Int):yf Try.prog 63 [(0,.int .i64 a),(1,.int .i64 b)]=some (.agg [.int .i64 a,.int .i64 b]):=by kernel_rfl
theorem zoh:yf Try.prog 63 []=some (.agg [.int .i64 0,.int .i64 0]):=by kernel_rfl
theorem agg2 (a b:AV):yV 2 [a,b]=some (.agg [a,b]):=rfl
theorem tk_at (k:Tk) (x:Int):List.take 2 k.cells++[.int .i64 x]++List.drop 3 k.cells=(Tk.mk k.kind k.text x).cells:=rfl
theorem bs90 (H:Hp) (k:Tk):zB Try.prog H 90 1 [(0,.agg k.cells)]=some (.sl H.next 0 1 3,H.alloc (.cells k.cells 0 true)):=by kernel_rfl
theorem zng {H0 H:Hp}{lv:AV}{ts:List Tk} (hrep:zgo H0.next H lv ts) (hf:FrB 0 H0 H) (hlo:H0.next < H.next) (k:Tk) {r':Nat} (hg:H.get r'=some (.cells k.cells 0 true)) (hb:ts.length < 2 ^ 40) :
 ∃ H6,zV Try.prog false H 90 90 lv (.sl r' 0 1 3)=some (.sl H.next 0 (ts.length+1) 3,H6)∧H6.next=H.next+1∧zgo H0.next H6 (.sl H.next 0 (ts.length+1) 3) (ts++[k])∧FrB 0 H0 H6∧∀ j,j < H.next→lv≠.sl j 0 ts.length 3→H6.get j=H.get j:=by
 have hsrc:yg H 3 (.sl r' 0 1 3)=some (0+1,k.cells):=by
  have:=zdm (H:=H) (r:=r') (o:=0) (n:=1) (z:=3) (s:=3) hg (by rw[List.drop_zero,List.length_take,Tk.clen];rfl)
  rw[this,List.drop_zero,List.take_of_length_le (by rw[Tk.clen];omega)]
 have hm:zU=70368744177664:=rfl
 rcases hrep with ⟨rfl,rfl⟩|⟨r,rfl,q2,q3,q4,q5⟩
 ·refine⟨H.alloc (.cells k.cells 0 true),?_,rfl,.inr ⟨H.next,by simp,?_,hlo,Nat.lt_succ_self _,by simp⟩,hf.alloc _,fun j hj _=>?_⟩
  ·exact append_nil Try.underlying90 znO zp1 zp2 (by kernel_rfl) hsrc k.one rfl (by rw[hm];omega) (by rw[hm];omega)
  ·rw[za,if_pos rfl];simp
  ·rw[za,if_neg (by omega)]
 ·refine⟨(H.kill r).alloc (.cells (ts.flatMap Tk.cells++k.cells) 0 true),?_,rfl,.inr ⟨H.next,by simp,?_,hlo,Nat.lt_succ_self _,by simp⟩,(hf.kill (by omega)).alloc _,fun j hj hne=>?_⟩
  ·exact zoX Try.underlying90 znO zp1 zp2 (by kernel_rfl) hsrc k.one rfl q2 (zlu ts) (by rw[hm];omega) (by rw[hm];omega)
  ·show((H.kill r).alloc _).get (H.kill r).next=_
   rw[za,if_pos rfl];simp
  ·have hjr:¬ j=r:=fun e=>hne (by rw[e])
   rw[za,if_neg (by simp only[z6];omega),zS,if_neg hjr]
def zro (s:List UInt8) (H:Hp) (v:AV) (H':Hp):Prop:=
 ∃ (why at':Int) (lv:AV),v=.tup [lv,.agg [.int .i64 why,.int .i64 at']]∧FrB 0 H H'∧((why≠0∧¬ zlt s)∨(why=0∧∃ ts,zgo H.next H' lv ts∧znV s ts∧(zlt s→ts=[⟨1,s,0⟩])))
theorem zvr {cfg:Cfg} (hx:Lexers cfg) (s:List UInt8) (hs:s.length < 2 ^ 60) (H:Hp):zu Try.prog cfg 112 [.str s] H (zro s H):=by
 have hw:=hx.scan
 refine zi (M:=49) (rs:=[.tmp 2,.cell 3 63]) (hw.call _) hw.ice hw.froz Try.func112 rfl rfl zvq.2 rfl ?_;dsimp only[zvq,zH,Nat.reduceAdd]
 have gh0:=@zog
 have gh1:=@zoh
 repeat' (first
  | (apply Rx.nl ?_;clear hK K)|apply Rx.o ?_|apply Rx.on ?_|(apply Rx.cd (fun hb hbp=>?_) (fun hb hbp=>?_)<;>try (cases hb;done))|apply Wp.seq ?_|(apply zd fun K hK=>?_)|apply Wp.block ?_|apply zh ?_|apply Rx.rt ?_|apply zj ?_)
 ·refine⟨eI,_,(by(try simp only[sB,sO,Nat.reduceBEq,Nat.reduceAdd,Nat.reduceLeDiff,tyF,zQ,yb,agg2, *]);first|done|with_reducible rfl),?_⟩;try simp only[zp]
  refine⟨6,20000,.nilS,rfl,znf _ _ _,.inl ⟨by simp,fun h=>?_⟩⟩
  have:=h.2.2.1
  omega
 ·refine WpL.call rfl eVk eAk ?_;simp only[List.cons_append,List.nil_append,List.append_nil]
  refine zu.mono ?_ (zg8 hx.space s hs _)
  rintro v _ ⟨rfl,rfl⟩
  dsimp only[zA]
  repeat' (first
   | (apply Rx.nl ?_;clear hK K)|apply Rx.o ?_|apply Rx.on ?_|(apply Rx.cd (fun hb hbp=>?_) (fun hb hbp=>?_)<;>try (cases hb;done))|apply Wp.seq ?_|(apply zd fun K hK=>?_)|apply Wp.block ?_|apply zh ?_|apply Rx.rt ?_|apply zj ?_)
  have hsp:=zbY false s
  refine Wp.loop (fun n E H2=>∃ (at':Nat) (ts:List Tk) (lv:AV),n=s.length - at'∧at'≤s.length∧E.at 0=.str s∧E.at 3=.ptr H.next 0∧E.at 4=lv∧E.at 5=.int .i64 at'∧FrB 0 H H2∧H.next < H2.next ∧
   H2.get H.next=some (.cells [.int .i64 0,.int .i64 0] 0 true)∧zgo H.next H2 lv ts∧ts.length≤at'∧znV s ts∧(ts=[]→at'=yI false s)∧(zlt s→(ts=[]∧at'=0)∨(ts=[⟨1,s,0⟩]∧at'=s.length))) ?_ (n:=s.length - yI false s) ?_
  ·rintro n E H2 ⟨at',ts,lv,rfl,ha,h0,h3,h4,h5,hf2,hn2,hg2,hrep,htl,hhead,hfirst,hnm⟩
   have e1:(H.next == H2.next)=false:=by simp;omega
   repeat' (first
    | (apply Rx.nl ?_;clear hK K)|apply Rx.o ?_|apply Rx.on ?_|(apply Rx.cd (fun hb hbp=>?_) (fun hb hbp=>?_)<;>try (cases hb;done))|apply Wp.seq ?_|(apply zd fun K hK=>?_)|apply Wp.block ?_|apply zh ?_|apply Rx.rt ?_|apply zj ?_)
   ·have hlt:at' < s.length:=by omega
    have hslo:=zlj (P:=Try.prog) (k:=.i64) (s:=s) (m:=at') Try.underlying9 ha
    repeat' (first
     | (apply Rx.nl ?_;clear hK K)|apply Rx.o ?_|apply Rx.on ?_|(apply Rx.cd (fun hb hbp=>?_) (fun hb hbp=>?_)<;>try (cases hb;done))|apply Wp.seq ?_|(apply zd fun K hK=>?_)|apply Wp.block ?_|apply zh ?_|apply Rx.rt ?_|apply zj ?_)
    have hne:s.drop at'≠[]:=by
     intro h
     have:=congrArg List.length h
     rw[List.length_drop,List.length_nil]at this
     omega
    refine WpL.call rfl eVk eAk ?_;simp only[List.cons_append,List.nil_append,List.append_nil]
    refine zu.mono ?_ (zrn hx (s.drop at') hne (by rw[List.length_drop];omega) H2)
    rintro v H3 ⟨⟨k,e,rfl,hk⟩,hf3⟩
    have hn3:=hf3.next
    have hg3:H3.get H.next=some (.cells [.int .i64 0,.int .i64 0] 0 true):=by rw[hf3.get _ (Nat.zero_le _) hn2];exact hg2
    have hrep3:zgo H.next H3 lv ts:=by
     rcases hrep with h|⟨r,q1,q2,q3,q4,q5⟩
     ·exact .inl h
     ·exact .inr ⟨r,q1,by rw[hf3.get _ (Nat.zero_le _) q4];exact q2,q3,by omega,q5⟩
    have e2:(H.next == H3.next)=false:=by simp;omega
    dsimp only[zA]
    have hx1:Ab.extract (.tup [.agg k.cells,.int .i64 e]) 0=some (.agg k.cells):=rfl
    have hx2:Ab.extract (.tup [.agg k.cells,.int .i64 e]) 1=some (.int .i64 e):=rfl
    have gh0:=@zog
    repeat' (first
     | (apply Rx.nl ?_;clear hK K)|apply Rx.o ?_|apply Rx.on ?_|(apply Rx.cd (fun hb hbp=>?_) (fun hb hbp=>?_)<;>try (cases hb;done))|apply Wp.seq ?_|(apply zd fun K hK=>?_)|apply Wp.block ?_|apply zh ?_|apply Rx.rt ?_|apply zj ?_)
    ·have he:e≠0:=by simpa using hb
     refine⟨eI,_,(by(try simp only[sB,sO,Nat.reduceBEq,Nat.reduceAdd,Nat.reduceLeDiff,tyF,zQ,yb,agg2, *]);first|done|with_reducible rfl),?_⟩;try simp only[zp]
     refine⟨e,at',.nilS,rfl,?_,.inl ⟨he,fun h=>?_⟩⟩
     ·exact((((hf2.trans hf3).alloc _).set (.inl (by omega)) _).set (.inl (Nat.le_refl _)) _)
     ·rcases hnm h with ⟨_,q⟩|⟨_,q⟩
      ·subst q
       exact he (hk.2.2 h.1 (by have:=h.2.1;have:=h.2.2.1;simp only[List.drop_zero];omega) h.2.2.2).1
      ·omega
    ·have he:e=0:=by simpa using hb
     have gh0:=@tk_at
     have gh1:=@bs90
     repeat' (first
      | (apply Rx.nl ?_;clear hK K)|apply Rx.o ?_|apply Rx.on ?_|(apply Rx.cd (fun hb hbp=>?_) (fun hb hbp=>?_)<;>try (cases hb;done))|apply Wp.seq ?_|(apply zd fun K hK=>?_)|apply Wp.block ?_|apply zh ?_|apply Rx.rt ?_|apply zj ?_)
     generalize hk':Tk.mk k.kind k.text (at':Int)=k'
     generalize hH5:Hp.alloc _ (HB.cells (Tk.cells k') 0 true)=H5
     have hn5:H5.next=H3.next+2:=by rw[← hH5];rfl
     have hg5:H5.get (H3.next+1)=some (.cells k'.cells 0 true):=by rw[← hH5];simp only[get_set,get_alloc,zb,ze,nb1,nb2,nb3,Nat.add_assoc,Nat.reduceAdd,beq_self_eq_true,cond_true,cond_false,Nat.reduceBEq]
     have hg5a:H5.get H3.next=some (.cells k'.cells 0 true):=by rw[← hH5];simp only[get_set,get_alloc,zb,ze,nb1,nb2,nb3,Nat.add_assoc,Nat.reduceAdd,beq_self_eq_true,cond_true,cond_false,Nat.reduceBEq]
     have hf5:FrB 0 H3 H5:=by rw[← hH5];exact(((FrB.refl _ _).alloc _).set (.inl (Nat.le_refl _)) _).set (.inl (Nat.le_refl _)) _ |>.alloc _
     have hF5:FrB 0 H H5:=(hf2.trans hf3).trans hf5
     have hrep5:zgo H.next H5 lv ts:=by
      rcases hrep3 with h|⟨r,q1,q2,q3,q4,q5⟩
      ·exact .inl h
      ·exact .inr ⟨r,q1,by rw[hf5.get _ (Nat.zero_le _) q4];exact q2,q3,by omega,q5⟩
     obtain⟨H6,p1,p2,p3,p4,p5⟩:=zng hrep5 hF5 (by omega) k' hg5 (by omega)
     have hkeep:=hx.keep
     have hg6:H6.get H.next=some (.cells [.int .i64 0,.int .i64 0] 0 true):=by
      rw[p5 _ (by omega) (fun e=>by rcases hrep3 with ⟨_,q⟩|⟨r,q1,_,q3,_⟩<;>simp_all),hf5.get _ (Nat.zero_le _) (by omega)];exact hg3
     have hg6a:H6.get H3.next=some (.cells k'.cells 0 true):=by
      rw[p5 _ (by omega) (fun e=>by rcases hrep3 with ⟨_,q⟩|⟨r,q1,_,q3,q4,_⟩<;>simp_all)];exact hg5a
     obtain⟨n,hn1,hn2',hkt,hkk⟩:=hk.2.1 he
     rw[List.length_drop]at hn2'
     have hktl:k'.text.length=n:=by rw[← hk'];show k.text.length=n;rw[hkt,List.length_take,List.length_drop];omega
     have hwr:IntKind.wrap .i64 ((at':Int)+(n:Int))=((at'+n:Nat):Int):=by rw[IntWalk.i64_in _ (by omega)];omega
     have hslo2:=zlj (P:=Try.prog) (k:=.i64) (s:=s) (m:=at'+n) Try.underlying9 (by omega)
     refine WpL.append eV eV (by rw[hkeep];exact p1) ?_
     repeat' (first
      | (apply Rx.nl ?_;clear hK K)|apply Rx.o ?_|apply Rx.on ?_|(apply Rx.cd (fun hb hbp=>?_) (fun hb hbp=>?_)<;>try (cases hb;done))|apply Wp.seq ?_|(apply zd fun K hK=>?_)|apply Wp.block ?_|apply zh ?_|apply Rx.rt ?_|apply zj ?_)
     refine WpL.call rfl eVk eAk ?_;simp only[List.cons_append,List.nil_append,List.append_nil]
     refine zu.mono ?_ (zg8 hx.space (s.drop (at'+n)) (by rw[List.length_drop];omega) _)
     rintro v _ ⟨rfl,rfl⟩
     dsimp only[zA]
     have hsp2:=zbY false (s.drop (at'+n))
     rw[List.length_drop]at hsp2
     have hwr2:IntKind.wrap .i64 (((at'+n:Nat):Int)+(yI false (s.drop (at'+n)):Int))=((at'+n+yI false (s.drop (at'+n)):Nat):Int):=by rw[IntWalk.i64_in _ (by omega)];omega
     repeat' (first
      | (apply Rx.nl ?_;clear hK K)|apply Rx.o ?_|apply Rx.on ?_|(apply Rx.cd (fun hb hbp=>?_) (fun hb hbp=>?_)<;>try (cases hb;done))|apply Wp.seq ?_|(apply zd fun K hK=>?_)|apply Wp.block ?_|apply zh ?_|apply Rx.rt ?_|apply zj ?_)
     refine⟨s.length - (at'+n+yI false (s.drop (at'+n))),by omega,at'+n+yI false (s.drop (at'+n)),ts++[k'],.sl H5.next 0 (ts.length+1) 3,rfl,by omega,eE,eE,eE,(by first|(simp only[sB,Nat.reduceBEq,Nat.add_assoc, *];done)|rfl),p4,by omega,hg6,p3,by simp;omega,fun t rest hr=>?_,by simp,fun h=>.inr ?_⟩
     ·cases ts with
      | nil=>
        simp only[List.nil_append,List.cons.injEq]at hr
        obtain⟨rfl,_⟩:=hr
        rw[← hfirst rfl]
        exact⟨k,by rw[← he];exact hk,by rw[← hk'],by rw[← hk']⟩
      | cons t0 ts=>
        simp only[List.cons_append,List.cons.injEq]at hr
        obtain⟨rfl,_⟩:=hr
        exact hhead _ _ rfl
     ·rcases hnm h with ⟨rfl,q⟩|⟨_,q⟩
      ·subst q
       have hk2:=(hk.2.2 h.1 (by have:=h.2.1;have:=h.2.2.1;simp only[List.drop_zero];omega) h.2.2.2).2
       simp only[List.drop_zero]at hk2 hkt
       have hwn:j5 s=s.length:=h.2.1
       rw[hwn,List.take_length]at hk2
       have hns:n=s.length:=by
        have:=congrArg List.length hkt
        rw[hk2,List.length_take]at this
        have h3:s.length=min n s.length:=this
        omega
       have hkk2:k'=⟨1,s,0⟩:=by rw[← hk',hk2];rfl
       refine⟨by rw[hkk2];rfl,?_⟩
       rw[hns];simp[yI]
      ·omega
   ·have hat:at'=s.length:=by omega
    have gh0:=@zoh
    repeat' (first
     | (apply Rx.nl ?_;clear hK K)|apply Rx.o ?_|apply Rx.on ?_|(apply Rx.cd (fun hb hbp=>?_) (fun hb hbp=>?_)<;>try (cases hb;done))|apply Wp.seq ?_|(apply zd fun K hK=>?_)|apply Wp.block ?_|apply zh ?_|apply Rx.rt ?_|apply zj ?_)
    refine⟨eI,_,(by(try simp only[sB,sO,Nat.reduceBEq,Nat.reduceAdd,Nat.reduceLeDiff,tyF,zQ,yb,agg2, *]);first|done|with_reducible rfl),?_⟩;try simp only[zp]
    refine⟨0,0,lv,rfl,hf2.set (.inl (Nat.le_refl _)) _,.inr ⟨rfl,ts,?_,hhead,fun h=>?_⟩⟩
    ·rcases hrep with h|⟨r,q1,q2,q3,q4,q5⟩
     ·exact .inl h
     ·exact .inr ⟨r,q1,by rw[Hp.get_set,if_neg (by omega)];exact q2,q3,q4,q5⟩
    ·rcases hnm h with ⟨_,q⟩|⟨q,_⟩
     ·have:=h.1;have:=h.2.1;omega
     ·exact q
  ·refine⟨yI false s,[],.nilS,rfl,hsp,eE,eE,eE,eE,(FrB.refl _ _).alloc _,by simp only[zb];omega,eF,.inl ⟨rfl,rfl⟩,by simp,by simp[znV],fun _=>rfl,fun h=>.inl ⟨rfl,zmU h⟩⟩
end Go.Proofs.Ytpbcimfiofmoeaa
namespace Go.Proofs.Ytpbcimfiofmoeaa
set_option maxRecDepth 20000
set_option maxRecDepth 20000
open Go Go.Ab
namespace tyW4j
def tyF:=And.intro @tq3 (And.intro @tq9 (And.intro @zmR (And.intro @tq63 (And.intro @tq90 (And.intro @znP (And.intro @zcg (And.intro @List.flatMap_cons.{0,0} (And.intro @List.flatMap_nil.{0,0} (@Nat.zero_mul)))))))))
end tyW4j
open tyW4j
noncomputable def code76:{ c:SC // slim 44 (Try.f76.body.getD .skip)=c }:=by
 refine⟨?_,?_⟩
 rotate_left
 ·simp only[Try.f76,Option.getD_some,slim,zT,zR,zY,zZ,Nat.blt,Nat.ble]
  rfl
noncomputable def code77:{ c:SC // slim 15 (Try.f77.body.getD .skip)=c }:=by
 refine⟨?_,?_⟩
 rotate_left
 ·simp only[Try.f77,Option.getD_some,slim,zT,zR,zY,zZ,Nat.blt,Nat.ble]
  rfl
theorem zdx {cfg:Cfg} (hx:Lexers cfg) (hw:Plain cfg 76) (s:List UInt8) (hs:s.length < 2 ^ 60) (H:Hp) :
 zu Try.prog cfg 76 [.str s] H fun v H'=>v=.bool (yA s)∧FrB 0 H H':=by
 refine zi (M:=44) (rs:=[.tmp 2]) (hw.call _) hw.ice hw.froz Try.func76 rfl rfl code76.2 rfl ?_;dsimp only[code76,zH,Nat.reduceAdd]
 repeat' (first
  | (apply Rx.nl ?_;clear hK K)|apply Rx.o ?_|apply Rx.on ?_|(apply Rx.gd (fun hg hgp=>?_) (fun hg hgp=>?_)<;>try (cases hg;done))|(apply Rx.cd (fun hb hbp=>?_) (fun hb hbp=>?_)<;>try (cases hb;done))|apply Wp.seq ?_|(apply zd fun K hK=>?_)|apply Wp.block ?_|apply zh ?_|apply Rx.rt ?_)
 refine WpL.call rfl eVk eAk ?_;simp only[List.cons_append,List.nil_append,List.append_nil]
 refine zu.mono ?_ (zvr hx s hs H)
 rintro v H2 ⟨why,at',lv,rfl,hf2,hcase⟩
 have hx1:Ab.extract (.tup [lv,.agg [.int .i64 why,.int .i64 at']]) 0=some lv:=rfl
 have hx2:Ab.extract (.tup [lv,.agg [.int .i64 why,.int .i64 at']]) 1=some (.agg [.int .i64 why,.int .i64 at']):=rfl
 dsimp only[zA]
 have hf3:FrB 0 H ((H2.alloc (.cells [.int .i64 0,.int .i64 0] 0 true)).set H2.next (.cells [.int .i64 why,.int .i64 at'] 0 true)):=(hf2.alloc _).set (.inl hf2.next) _
 rcases hcase with ⟨h1,h2⟩|⟨rfl,ts,hrep,hhead,hnm⟩
 ·have hnb:nmB s=false:=by
   cases hb:nmB s with
   | false=>rfl
   | true=>exact(h2 ((zhr s).1 hb)).elim
  repeat' (first
   | (apply Rx.nl ?_;clear hK K)|apply Rx.o ?_|apply Rx.on ?_|(apply Rx.gd (fun hg hgp=>?_) (fun hg hgp=>?_)<;>try (cases hg;done))|(apply Rx.cd (fun hb hbp=>?_) (fun hb hbp=>?_)<;>try (cases hb;done))|apply Wp.seq ?_|(apply zd fun K hK=>?_)|apply Wp.block ?_|apply zh ?_|apply Rx.rt ?_)
  all_goals (refine⟨eI,_,eR,?_⟩;try simp only[zp])
  exact⟨by simp only[yA,hnb,Bool.false_and],hf3⟩
 ·rcases hrep with ⟨rfl,rfl⟩|⟨r,rfl,q2,q3,q4,q5⟩
  ·have hnb:nmB s=false:=by
    cases hb:nmB s with
    | false=>rfl
    | true=>have:=hnm ((zhr s).1 hb);simp at this
   repeat' (first
    | (apply Rx.nl ?_;clear hK K)|apply Rx.o ?_|apply Rx.on ?_|(apply Rx.gd (fun hg hgp=>?_) (fun hg hgp=>?_)<;>try (cases hg;done))|(apply Rx.cd (fun hb hbp=>?_) (fun hb hbp=>?_)<;>try (cases hb;done))|apply Wp.seq ?_|(apply zd fun K hK=>?_)|apply Wp.block ?_|apply zh ?_|apply Rx.rt ?_)
   all_goals (refine⟨eI,_,eR,?_⟩;try simp only[zp])
   exact⟨by simp only[yA,hnb,Bool.false_and],hf3⟩
  ·have e1:(r == H2.next)=false:=by simp;omega
   by_cases hl:ts.length=1
   ·obtain⟨k,rfl⟩:=List.length_eq_one_iff.1 hl
    simp only[List.flatMap_cons,List.flatMap_nil,List.append_nil]at q2
    simp only[List.length_cons,List.length_nil,Nat.zero_add]at hx1 hx2 ⊢
    have hkey:zlt s↔(k.kind=1∧k.text=s):=⟨fun h=>by have:=hnm h;simp only[List.cons.injEq,and_true]at this;rw[this];exact⟨rfl,rfl⟩,fun h=>zuE hhead h.1 h.2⟩
    have hnb:nmB s=(decide (k.kind=1)&&decide (k.text=s)):=by
     rw[Bool.eq_iff_iff,zhr,hkey];simp
    clear hkey hnm hhead
    have hidx:zq Try.prog 90 (.sl r 0 1 3) (.int .i64 0)=some (.ptr r 0):=by kernel_rfl
    repeat' (first
     | (apply Rx.nl ?_;clear hK K)|apply Ry.o ?_|apply Ry.on ?_|(apply Ry.gd (fun hg hgp=>?_) (fun hg hgp=>?_)<;>try (cases hg;done))|(apply Ry.cd (fun hb hbp=>?_) (fun hb hbp=>?_)<;>try (cases hb;done))|apply Wp.seq ?_|(apply zd fun K hK=>?_)|apply Wp.block ?_|apply zh ?_|apply Rx.rt ?_)
    all_goals (refine⟨eI,_,eR,?_⟩;try simp only[zp])
    all_goals (refine⟨?_,hf3⟩;simp only[yA,hnb,resB];simp_all)
   ·have hnb:nmB s=false:=by
     cases hb:nmB s with
     | false=>rfl
     | true=>have:=hnm ((zhr s).1 hb);rw[this]at hl;simp at hl
    have hl2:decide ((ts.length:Int)=1)=false:=by simp;omega
    repeat' (first
     | (apply Rx.nl ?_;clear hK K)|apply Rx.o ?_|apply Rx.on ?_|(apply Rx.gd (fun hg hgp=>?_) (fun hg hgp=>?_)<;>try (cases hg;done))|(apply Rx.cd (fun hb hbp=>?_) (fun hb hbp=>?_)<;>try (cases hb;done))|apply Wp.seq ?_|(apply zd fun K hK=>?_)|apply Wp.block ?_|apply zh ?_|apply Rx.rt ?_)
    all_goals (refine⟨eI,_,eR,?_⟩;try simp only[zp])
    exact⟨by simp only[yA,hnb,Bool.false_and],hf3⟩
end Go.Proofs.Ytpbcimfiofmoeaa
namespace Go.Proofs.Ytpbcimfiofmoeaa
set_option maxRecDepth 20000
set_option maxRecDepth 20000
open Go Go.Ab
namespace tyW4k
def tyF:=And.intro @tq3 (And.intro @tq9 (And.intro @zcg (And.intro @tq2 (And.intro @zbc (@zay)))))
end tyW4k
open tyW4k
noncomputable def zvs:{ c:SC // slim 23 (Try.f113.body.getD .skip)=c }:=by
 refine⟨?_,?_⟩
 rotate_left
 ·simp only[Try.f113,Option.getD_some,slim,zT,zR,zY,zZ,Nat.blt,Nat.ble]
  rfl
noncomputable def zvt:{ c:SC // slim 27 (Try.f135.body.getD .skip)=c }:=by
 refine⟨?_,?_⟩
 rotate_left
 ·simp only[Try.f135,Option.getD_some,slim,zT,zR,zY,zZ,Nat.blt,Nat.ble]
  rfl
noncomputable def zoi:{ c:SC // slim 10 (Try.f115.body.getD .skip)=c }:=by
 refine⟨?_,?_⟩
 rotate_left
 ·simp only[Try.f115,Option.getD_some,slim,zT,zR,zY,zZ,Nat.blt,Nat.ble]
  rfl
def opB (k kids:Int):Bool:=if k=20∨k=21 then decide (kids=1)else decide (4≤k)&&decide (k≤18)&&decide (kids=2)
theorem znh {cfg:Cfg} (hw:Plain cfg 113) (k kids:Int) (H:Hp) :
 zu Try.prog cfg 113 [.int .i64 k,.int .i64 kids] H fun v H'=>v=.bool (opB k kids)∧H'=H:=by
 refine zi (M:=23) (rs:=[.tmp 4]) (hw.call _) hw.ice hw.froz Try.func113 rfl rfl zvs.2 rfl ?_;dsimp only[zvs,zH,Nat.reduceAdd]
 repeat' (first
  | (apply Rx.nl ?_;clear hK K)|apply Rx.o ?_|(apply Rx.gd (fun hg hgp=>?_) (fun hg hgp=>?_)<;>try (cases hg;done))|(apply Rx.cd (fun hb hbp=>?_) (fun hb hbp=>?_)<;>try (cases hb;done))|apply Wp.seq ?_|(apply zd fun K hK=>?_)|apply zh ?_|apply Rx.rt ?_)
 all_goals
  all_goals (refine⟨eI,_,eR,?_⟩;try simp only[zp])
 all_goals (refine⟨?_,by first|rfl|trivial⟩;simp_all[opB]<;>omega)
theorem zpr {cfg:Cfg} (hw:Plain cfg 135) (x:Ex) (H:Hp) :
 zu Try.prog cfg 135 [.agg x.cells] H fun v H'=>v=.bool (zeroE x)∧FrB 0 H H':=by
 refine zi (M:=27) (rs:=[.tmp 2]) (hw.call _) hw.ice hw.froz Try.func135 rfl rfl zvt.2 rfl ?_;dsimp only[zvt,zH,Nat.reduceAdd]
 repeat' (first
  | (apply Rx.nl ?_;clear hK K)|apply Rx.o ?_|(apply Rx.gd (fun hg hgp=>?_) (fun hg hgp=>?_)<;>try (cases hg;done))|apply Wp.seq ?_|(apply zd fun K hK=>?_)|apply Rx.rt ?_)
 all_goals
  all_goals (refine⟨eI,_,eR,?_⟩;try simp only[zp])
 all_goals (refine⟨?_,(FrB.refl _ _).alloc _⟩;simp_all[zeroE])
def zcF (s:List UInt8) (want:Bool):Bool:=if want then yA s else decide (s=[])
theorem zku {cfg:Cfg} (hx:Lexers cfg) (hv:Plain cfg 76) (hw:Plain cfg 115) (s:List UInt8) (want:Bool) (hs:s.length < 2 ^ 60) (H:Hp) :
 zu Try.prog cfg 115 [.str s,.bool want] H fun v H'=>v=.bool (zcF s want)∧FrB 0 H H':=by
 cases want
 ·refine zi (M:=10) (rs:=[.tmp 4]) (hw.call _) hw.ice hw.froz Try.func115 rfl rfl zoi.2 rfl ?_;dsimp only[zoi,zH,Nat.reduceAdd]
  repeat' (first
   | (apply Rx.nl ?_;clear hK K)|apply Rx.o ?_|(apply Rx.cd (fun hb hbp=>?_) (fun hb hbp=>?_)<;>try (cases hb;done))|apply Wp.seq ?_|(apply zd fun K hK=>?_)|apply zh ?_|apply Rx.rt ?_)
  all_goals (refine⟨eI,_,eR,?_⟩;try simp only[zp])
  exact⟨by simp[zcF],FrB.refl _ _⟩
 ·refine zi (M:=10) (rs:=[.tmp 4]) (hw.call _) hw.ice hw.froz Try.func115 rfl rfl zoi.2 rfl ?_;dsimp only[zoi,zH,Nat.reduceAdd]
  repeat' (first
   | (apply Rx.nl ?_;clear hK K)|apply Rx.o ?_|(apply Rx.cd (fun hb hbp=>?_) (fun hb hbp=>?_)<;>try (cases hb;done))|apply Wp.seq ?_|(apply zd fun K hK=>?_)|apply zh ?_|apply Rx.rt ?_)
  refine WpL.call rfl eVk eAk ?_;simp only[List.cons_append,List.nil_append,List.append_nil]
  refine zu.mono ?_ (zdx hx hv s hs H)
  rintro v H2 ⟨rfl,hf2⟩
  dsimp only[zA]
  repeat' (first
   | (apply Rx.nl ?_;clear hK K)|apply Rx.o ?_|(apply Rx.cd (fun hb hbp=>?_) (fun hb hbp=>?_)<;>try (cases hb;done))|apply Wp.seq ?_|(apply zd fun K hK=>?_)|apply zh ?_|apply Rx.rt ?_)
  all_goals (refine⟨eI,_,eR,?_⟩;try simp only[zp])
  exact⟨by simp[zcF],hf2⟩
theorem zi5 {cfg:Cfg} (hx:Lexers cfg) (hv:Plain cfg 76) (hw:Plain cfg 77) (l:List (List UInt8)) (hz:yL l < 2 ^ 60) (H:Hp) :
 zu Try.prog cfg 77 [jg l] H fun v H'=>v=.bool (l.all yA)∧FrB 0 H H':=by
 have hl:l.length < 2 ^ 60:=by have:=zas l;omega
 refine zi (M:=15) (rs:=[.tmp 2]) (hw.call _) hw.ice hw.froz Try.func77 rfl rfl code77.2 rfl ?_;dsimp only[code77,zH,Nat.reduceAdd]
 repeat' (first
  | (apply Rx.nl ?_;clear hK K)|apply Rx.o ?_|(apply Rx.cd (fun hb hbp=>?_) (fun hb hbp=>?_)<;>try (cases hb;done))|apply Wp.seq ?_|(apply zd fun K hK=>?_)|apply Wp.block ?_|apply zh ?_|apply Rx.rt ?_|apply zj ?_)
 refine zaq (fun i E H2=>l.all yA=(l.drop i).all yA∧E.at 5=.lst (l.map fun s=>[.str s])∧E.at 6=.int .i64 l.length∧E.at 7=.int .i64 i∧FrB 0 H H2) l.length ?_ ?_
 ·rintro i E H2 hi2 ⟨hc,h5,h6,h7,hf2⟩
  repeat' (first
   | (apply Rx.nl ?_;clear hK K)|apply Rx.o ?_|(apply Rx.cd (fun hb hbp=>?_) (fun hb hbp=>?_)<;>try (cases hb;done))|apply Wp.seq ?_|(apply zd fun K hK=>?_)|apply Wp.block ?_|apply zh ?_|apply Rx.rt ?_|apply zj ?_)
  ·have hlt:i < l.length:=by simpa using hb
   have hgx:l[i]?=some l[i]:=List.getElem?_eq_getElem hlt
   have hsm:=zib (List.getElem_mem hlt)
   have hdr:(l.drop i).all yA=(yA l[i]&&(l.drop (i+1)).all yA):=by rw[List.drop_eq_getElem_cons hlt,List.all_cons]
   repeat' (first
    | (apply Rx.nl ?_;clear hK K)|apply Rx.o ?_|(apply Rx.cd (fun hb hbp=>?_) (fun hb hbp=>?_)<;>try (cases hb;done))|apply Wp.seq ?_|(apply zd fun K hK=>?_)|apply Wp.block ?_|apply zh ?_|apply Rx.rt ?_|apply zj ?_)
   refine WpL.call rfl eVk eAk ?_;simp only[List.cons_append,List.nil_append,List.append_nil]
   refine zu.mono ?_ (zdx hx hv l[i] (by omega) H2)
   rintro v H3 ⟨rfl,hf3⟩
   dsimp only[zA]
   repeat' (first
    | (apply Rx.nl ?_;clear hK K)|apply Rx.o ?_|(apply Rx.cd (fun hb hbp=>?_) (fun hb hbp=>?_)<;>try (cases hb;done))|apply Wp.seq ?_|(apply zd fun K hK=>?_)|apply Wp.block ?_|apply zh ?_|apply Rx.rt ?_|apply zj ?_)
   ·all_goals (refine⟨eI,_,eR,?_⟩;try simp only[zp])
    exact⟨by rw[hc,hdr];simp_all,hf2.trans hf3⟩
   ·refine⟨hlt,by rw[hc,hdr];simp_all,eE,eE,?_,hf2.trans hf3⟩
    simp only[at_set,Nat.reduceBEq,cond_true,ya (show i < 2 ^ 62 by omega)]
  ·all_goals (refine⟨eI,_,eR,?_⟩;try simp only[zp])
   have hie:i=l.length:=by simp at hb;omega
   exact⟨by rw[hc,hie];simp,hf2⟩
 ·exact⟨by simp,eE,eE,eE,FrB.refl _ _⟩
end Go.Proofs.Ytpbcimfiofmoeaa
namespace Go.Proofs.Ytpbcimfiofmoeaa
set_option maxRecDepth 20000
set_option maxRecDepth 20000
open Go Go.Ab
namespace tyP4a
def tyF:=And.intro @tq2 (And.intro @tq3 (And.intro @tq9 (And.intro @zbc (And.intro @zay (And.intro @tq4 (@tq162))))))
end tyP4a
open tyP4a
noncomputable def zvu:{ c:SC // slim 27 (Try.f114.body.getD .skip)=c }:=by
 refine⟨?_,?_⟩
 rotate_left
 ·simp only[Try.f114,Option.getD_some,slim,zT,zR,zY,zZ,Nat.blt,Nat.ble]
  rfl
noncomputable def code79:{ c:SC // slim 87 (Try.f79.body.getD .skip)=c }:=by
 refine⟨?_,?_⟩
 rotate_left
 ·simp only[Try.f79,Option.getD_some,slim,zT,zR,zY,zZ,Nat.blt,Nat.ble]
  rfl
noncomputable def zoj:{ c:SC // slim 10 (Try.f116.body.getD .skip)=c }:=by
 refine⟨?_,?_⟩
 rotate_left
 ·simp only[Try.f116,Option.getD_some,slim,zT,zR,zY,zZ,Nat.blt,Nat.ble]
  rfl
theorem zvv {l:List En} (h:∀ f,f∈[151,146,144,133,147,145,134,112]→(∀ args,yJ l f args=none)∧zfI l f=false):Lexers (zJ pls l) where
 let_:=yD (h _ (by simp)).1 (h _ (by simp)).2
 dig:=yD (h _ (by simp)).1 (h _ (by simp)).2
 word:=yD (h _ (by simp)).1 (h _ (by simp)).2
 space:=yD (h _ (by simp)).1 (h _ (by simp)).2
 num:=yD (h _ (by simp)).1 (h _ (by simp)).2
 sym:=yD (h _ (by simp)).1 (h _ (by simp)).2
 first:=yD (h _ (by simp)).1 (h _ (by simp)).2
 scan:=yD (h _ (by simp)).1 (h _ (by simp)).2
 plan _:=by first|rfl|kernel_rfl
 keep:=rfl
theorem lex0:Lexers (zJ pls []):=zvv fun f _=>⟨fun _=>rfl,rfl⟩
theorem zni (ρ:Nat→Int) (s:List UInt8) (hs:s.length < 2 ^ 60):Con Try.prog ρ 76 [.str s] (.bool (yA s)):=
 yO fit (pls:=pls) (l:=[]) trivial (.cons (.str _) .nil) (.bool _) (zu.mono (fun v H h=>h.1) (zdx lex0 (ju _) s hs H0))
theorem zvw (ρ:Nat→Int) (x:Int×Nat):Con Try.prog ρ 113 [.int .i64 x.1,.int .i64 x.2] (.bool (opB x.1 x.2)):=
 yO fit (pls:=pls) (l:=[]) trivial (.cons (.int _ _) (.cons (.int _ _) .nil)) (.bool _) (zu.mono (fun v H h=>h.1) (znh (ju _) x.1 x.2 H0))
theorem zps (ρ:Nat→Int) (x:Ex):Con Try.prog ρ 135 [.agg x.cells] (.bool (zeroE x)):=
 yO fit (pls:=pls) (l:=[]) trivial (.cons (.agg x.pure) .nil) (.bool _) (zu.mono (fun v H h=>h.1) (zpr (ju _) x H0))
theorem znj (ρ:Nat→Int) (l:List (List UInt8)) (hl:yL l < 2 ^ 60):Con Try.prog ρ 77 [jg l] (.bool (l.all yA)):=
 yO fit (pls:=pls) (l:=[]) trivial (.cons (zcX _) .nil) (.bool _) (zu.mono (fun v H h=>h.1) (zi5 lex0 (ju _) (ju _) l hl H0))
theorem znk (ρ:Nat→Int) (s:List UInt8) (w:Bool) (hs:s.length < 2 ^ 60):Con Try.prog ρ 115 [.str s,.bool w] (.bool (zcF s w)):=
 yO fit (pls:=pls) (l:=[]) trivial (.cons (.str _) (.cons (.bool _) .nil)) (.bool _) (zu.mono (fun v H h=>h.1) (zku lex0 (ju _) (ju _) s w hs H0))
def znl (k:Int):List Bool:=
 if k=1 then [true,false,false,false,true,false,false,false]
 else if k=2 then [true,false,false,true,true,false,false,false]
 else if k=3 then [false,false,false,false,true,false,true,true]
 else if k=4 then [false,false,false,false,true,false,true,false]
 else if k=5 then [false,false,false,false,true,false,false,false]
 else if k=6 then [true,true,false,false,false,true,false,false]
 else if k=7 then [false,false,true,false,false,false,false,false]
 else [false,false,false,false,false,false,false,false]
def zbr (k:Int):Bool:=decide (1≤k)&&decide (k≤7)
def fldA (k:Int):AV:=.tup [.agg ((znl k).map .bool),.bool (zbr k)]
theorem agg8 (a b c d e f g h:AV):yV 8 [a,b,c,d,e,f,g,h]=some (.agg [a,b,c,d,e,f,g,h]):=rfl
theorem znm (ρ:Nat→Int) (k:Int):Con Try.prog ρ 114 [.int .i64 k] (fldA k):=yO fit (pls:=pls) (l:=[]) trivial (.cons (.int _ _) .nil) (.tup (.cons (.agg fun v hv=>by
 obtain⟨b,_,rfl⟩:=List.mem_map.1 hv
 exact .bool b) (.cons (.bool _) .nil))) (by
 have hw:=ju 114
 have b1:yf Try.prog 162 [(0,.bool true),(4,.bool true)]=some (.agg [.bool true,.bool false,.bool false,.bool false,.bool true,.bool false,.bool false,.bool false]):=by kernel_rfl
 have b2:yf Try.prog 162 [(0,.bool true),(3,.bool true),(4,.bool true)]=some (.agg [.bool true,.bool false,.bool false,.bool true,.bool true,.bool false,.bool false,.bool false]):=by kernel_rfl
 have b3:yf Try.prog 162 [(4,.bool true),(6,.bool true),(7,.bool true)]=some (.agg [.bool false,.bool false,.bool false,.bool false,.bool true,.bool false,.bool true,.bool true]):=by kernel_rfl
 have b4:yf Try.prog 162 [(4,.bool true),(6,.bool true)]=some (.agg [.bool false,.bool false,.bool false,.bool false,.bool true,.bool false,.bool true,.bool false]):=by kernel_rfl
 have b5:yf Try.prog 162 [(4,.bool true)]=some (.agg [.bool false,.bool false,.bool false,.bool false,.bool true,.bool false,.bool false,.bool false]):=by kernel_rfl
 have b6:yf Try.prog 162 [(0,.bool true),(1,.bool true),(5,.bool true)]=some (.agg [.bool true,.bool true,.bool false,.bool false,.bool false,.bool true,.bool false,.bool false]):=by kernel_rfl
 have b7:yf Try.prog 162 [(2,.bool true)]=some (.agg [.bool false,.bool false,.bool true,.bool false,.bool false,.bool false,.bool false,.bool false]):=by kernel_rfl
 have b0:yf Try.prog 162 []=some (.agg [.bool false,.bool false,.bool false,.bool false,.bool false,.bool false,.bool false,.bool false]):=by kernel_rfl
 refine zi (M:=27) (rs:=[.cell 2 162,.tmp 3]) (hw.call _) hw.ice hw.froz Try.func114 rfl rfl zvu.2 rfl ?_;dsimp only[zvu,zH,Nat.reduceAdd]
 repeat' (first
  | (apply Rx.nl ?_;clear hK K)|apply Rx.o ?_|apply Rx.on ?_|(apply Rx.cd (fun hb hbp=>?_) (fun hb hbp=>?_)<;>try (cases hb;done))|apply Wp.seq ?_|(apply zd fun K hK=>?_)|apply Wp.block ?_|apply zh ?_|apply Rx.rt ?_)
 all_goals
  refine⟨eI,_,(by(try simp only[sB,sO,Nat.reduceBEq,Nat.reduceAdd,Nat.reduceLeDiff,tyF,zQ,yb,agg8, *]);first|done|with_reducible rfl),?_⟩;try simp only[zp]
 all_goals
  first
  | (simp_all[fldA,znl,zbr];done)
  | (have h0:zbr k=false:=by
      simp only[zbr,Bool.and_eq_false_iff,decide_eq_false_iff_not];omega
     simp_all[fldA,znl];done))
theorem opB_eq (k:Int) (n:Nat):opB k n=((decide ((n:Int)=2)&&zgp k)||(decide ((n:Int)=1)&&(decide (k=20)||decide (k=21)))):=by
 unfold opB zgp
 by_cases h:k=20∨k=21
 ·rw[if_pos h]
  rcases h with rfl|rfl<;>simp
 ·rw[if_neg h]
  have h1:¬ k=20:=fun e=>h (.inl e)
  have h2:¬ k=21:=fun e=>h (.inr e)
  simp only[h1,h2,decide_false,Bool.or_false,Bool.and_false]
  cases decide (4≤k)<;>cases decide (k≤18)<;>cases decide ((n:Int)=2)<;>rfl
noncomputable def enPN:En:=⟨76,false,spP (fun s=>s.length < 2 ^ 60) bsE fun s=>.bool (yA s)⟩
theorem zok (ρ:Nat→Int):zaF Try.prog ρ enPN:=yW fun x hx=>zni ρ x hx
def opE (x:Int×Nat):List AV:=[.int .i64 x.1,.int .i64 x.2]
theorem zvx (x y:Int×Nat) (h:opE x=opE y):x=y:=by
 simp only[opE,List.cons.injEq,AV.int.injEq,and_true,true_and]at h
 exact Prod.ext h.1 (by omega)
noncomputable def enPO:En:=⟨113,false,spP (fun _=>True) opE fun x=>.bool (opB x.1 x.2)⟩
theorem zol (ρ:Nat→Int):zaF Try.prog ρ enPO:=yW fun x _=>zvw ρ x
noncomputable def enPZ:En:=⟨135,false,spP (fun _=>True) exE fun x=>.bool (zeroE x)⟩
theorem zvy (ρ:Nat→Int):zaF Try.prog ρ enPZ:=yW fun x _=>zps ρ x
theorem zrp {l:List En} (hv:∀ ar,yJ l 76 ar=enPN.sp ar) (ho:∀ ar,yJ l 113 ar=enPO.sp ar) (hp:(∀ ar,yJ l 79 ar=none)∧zfI l 79=false) {base:Nat}{I:Hp→Prop} (hI:zg7 base I) :
 zgC (zJ pls l) base I 79 [] fun x _=>wfX x:=by
 intro x d H hz hbase hi
 have hw:Plain (zJ pls l) 79:=yD hp.1 hp.2
 have kv:∀ s:List UInt8,s.length < 2 ^ 60→∀ H,zu Try.prog (zJ pls l) 76 [.str s] H fun v H'=>v=.bool (yA s)∧H'=H:=fun s h1 H=>yd (enc:=bsE) (out:=fun x=>.bool (yA x)) znW (x:=s) (hv _) h1
 have ko:∀ (k:Int) (n:Nat),∀ H,zu Try.prog (zJ pls l) 113 [.int .i64 k,.int .i64 n] H fun v H'=>v=.bool (opB k n)∧H'=H:=fun k n H=>yd (enc:=opE) (out:=fun x=>.bool (opB x.1 x.2)) zvx (x:=(k,n)) (ho _) trivial
 have hsz:=x.sz_eq
 refine zi (M:=87) (rs:=[.tmp 4]) (hw.call _) hw.ice hw.froz Try.func79 rfl rfl code79.2 rfl ?_;dsimp only[code79,zH,Nat.reduceAdd]
 repeat' (first
  | (apply Rx.nl ?_;clear hK K)|apply Rx.o ?_|(apply Rx.call ?_;first|refine jM (kv _ (by omega) _) ?_|refine jM (ko _ _ _) ?_)|(apply Rx.gd (fun hg hgp=>?_) (fun hg hgp=>?_)<;>try (cases hg;done))|(apply Rx.cd (fun hb hbp=>?_) (fun hb hbp=>?_)<;>try (cases hb;done))|apply Wp.seq ?_|(apply zd fun K hK=>?_)|apply Wp.block ?_|apply zh ?_|apply Rx.rt ?_)
 all_goals
  all_goals (refine⟨eI,_,eR,?_⟩;try simp only[zp])
  refine⟨?_,(FrB.refl _ _).alloc _,hI _ _ hi ((Low.refl _ _).alloc hbase _)⟩
  rw[wfX]
  (try rw[opB_eq])
  (try simp only[Bool.not_eq_true',Bool.not_eq_false']at *);simp only[*,decide_true,decide_false,Bool.false_or,Bool.or_false,Bool.true_or,Bool.or_true,Bool.false_and,Bool.and_false,Bool.true_and,Bool.and_true,Bool.not_true,Bool.not_false,if_true,if_false,Int.reduceEq]
end Go.Proofs.Ytpbcimfiofmoeaa
