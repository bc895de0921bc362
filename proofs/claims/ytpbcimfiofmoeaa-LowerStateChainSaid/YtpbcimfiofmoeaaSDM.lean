/- Parts: W4f, W4g, W4h, W4i, W4j, W4k, P4a. -/
import Derived.Test.YtpbcimfiofmoeaaSDL
set_option linter.unusedSimpArgs false
set_option linter.unusedVariables false
set_option linter.unusedSectionVars false
set_option linter.defProp false
set_option maxHeartbeats 32000000
namespace Go.Proofs.Ytpbcimfiofmoeaa
set_option maxRecDepth 20000
set_option maxRecDepth 20000
open Go Go.Ab
namespace tyW4f
def tyF:=And.intro @tq3 (And.intro @tq5 (@tq9))
end tyW4f
open tyW4f
noncomputable def zuZ:{ c:SC // slim 21 (Try.f151.body.getD .skip)=c }:=by
 refine⟨?_,?_⟩
 rotate_left
 ·simp only[Try.f151,Option.getD_some,slim,zZ,zS,z6,z7,Nat.blt,Nat.ble]
  rfl
noncomputable def zu0:{ c:SC // slim 9 (Try.f146.body.getD .skip)=c }:=by
 refine⟨?_,?_⟩
 rotate_left
 ·simp only[Try.f146,Option.getD_some,slim,zZ,zS,z6,z7,Nat.blt,Nat.ble]
  rfl
noncomputable def zu1:{ c:SC // slim 23 (Try.f144.body.getD .skip)=c }:=by
 refine⟨?_,?_⟩
 rotate_left
 ·simp only[Try.f144,Option.getD_some,slim,zZ,zS,z6,z7,Nat.blt,Nat.ble]
  rfl
noncomputable def zu2:{ c:SC // slim 34 (Try.f133.body.getD .skip)=c }:=by
 refine⟨?_,?_⟩
 rotate_left
 ·simp only[Try.f133,Option.getD_some,slim,zZ,zS,z6,z7,Nat.blt,Nat.ble]
  rfl
noncomputable def zu3:{ c:SC // slim 37 (Try.f147.body.getD .skip)=c }:=by
 refine⟨?_,?_⟩
 rotate_left
 ·simp only[Try.f147,Option.getD_some,slim,zZ,zS,z6,z7,Nat.blt,Nat.ble]
  rfl
theorem zlJ {cfg:Cfg} (hw:Plain cfg 151) (n:Int) (H:Hp):zr Try.prog cfg 151 [.int .u8 n] H fun v H'=>v=.bool (zfD n)∧H'=H:=by
 refine zj (M:=21) (rs:=[.tmp 2]) (hw.call _) hw.ice hw.froz Try.func151 rfl rfl zuZ.2 rfl ?_;dsimp only[zuZ,zO,Nat.reduceAdd]
 repeat' (first
  | (apply Rx.nl ?_;clear hK K)|apply Rx.o ?_|apply Rx.gu ?_|(apply Rx.gd (fun hg hgp=>?_) (fun hg hgp=>?_)<;>try (cases hg;done))|apply Wp.seq ?_|(apply zd fun K hK=>?_)|apply Rx.rt ?_)
 all_goals (refine⟨eI,_,eR,?_⟩;try simp only[zp])
 all_goals (refine⟨?_,by first|rfl|trivial⟩;simp_all[zfD]<;>omega)
theorem zfd {cfg:Cfg} (hw:Plain cfg 146) (n:Int) (H:Hp):zr Try.prog cfg 146 [.int .u8 n] H fun v H'=>v=.bool (ze3 n)∧H'=H:=by
 refine zj (M:=9) (rs:=[.tmp 2]) (hw.call _) hw.ice hw.froz Try.func146 rfl rfl zu0.2 rfl ?_;dsimp only[zu0,zO,Nat.reduceAdd]
 repeat' (first
  | (apply Rx.nl ?_;clear hK K)|apply Rx.o ?_|(apply Rx.gd (fun hg hgp=>?_) (fun hg hgp=>?_)<;>try (cases hg;done))|apply Wp.seq ?_|(apply zd fun K hK=>?_)|apply Rx.rt ?_)
 all_goals (refine⟨eI,_,eR,?_⟩;try simp only[zp])
 all_goals (refine⟨?_,by first|rfl|trivial⟩;simp_all[ze3]<;>omega)
theorem zm3 {cfg:Cfg} (hw:Plain cfg 144) (hl:Plain cfg 151) (hd:Plain cfg 146) (s:List UInt8) (hs:s.length < 2 ^ 60) (H:Hp) :
 zr Try.prog cfg 144 [.str s] H fun v H'=>v=.int .i64 (j5 s)∧H'=H:=by
 refine zj (M:=23) (rs:=[.tmp 2]) (hw.call _) hw.ice hw.froz Try.func144 rfl rfl zu1.2 rfl ?_;dsimp only[zu1,zO,Nat.reduceAdd]
 repeat' (first
  | (apply Rx.nl ?_;clear hK K)|apply Rx.o ?_|apply Rx.gu ?_|(apply Rx.gd (fun hg hgp=>?_) (fun hg hgp=>?_)<;>try (cases hg;done))|(apply Rx.cd (fun hb hbp=>?_) (fun hb hbp=>?_)<;>try (cases hb;done))|apply Wp.seq ?_|(apply zd fun K hK=>?_)|apply Wp.block ?_|apply zh ?_|apply Rx.rt ?_|apply zk ?_)
 refine zaq (fun i E H'=>j5 s=i+j5 (s.drop i)∧E.at 0=.str s∧E.at 3=.int .i64 i∧H'=H) s.length ?_ ?_
 ·rintro i E H' hi ⟨hc,h0,h3,rfl⟩
  repeat' (first
   | (apply Rx.nl ?_;clear hK K)|apply Rx.o ?_|apply Rx.gu ?_|(apply Rx.gd (fun hg hgp=>?_) (fun hg hgp=>?_)<;>try (cases hg;done))|(apply Rx.cd (fun hb hbp=>?_) (fun hb hbp=>?_)<;>try (cases hb;done))|apply Wp.seq ?_|(apply zd fun K hK=>?_)|apply Wp.block ?_|apply zh ?_|apply Rx.rt ?_|apply zk ?_)
  ·have hlt:i < s.length:=by omega
   have hgx:s[i]?=some s[i]:=List.getElem?_eq_getElem hlt
   have hdr:j5 (s.drop i)=if zdY s[i]then j5 (s.drop (i+1))+1 else 0:=by rw[List.drop_eq_getElem_cons hlt,j5]
   repeat' (first
    | (apply Rx.nl ?_;clear hK K)|apply Rx.o ?_|apply Rx.gu ?_|(apply Rx.gd (fun hg hgp=>?_) (fun hg hgp=>?_)<;>try (cases hg;done))|(apply Rx.cd (fun hb hbp=>?_) (fun hb hbp=>?_)<;>try (cases hb;done))|apply Wp.seq ?_|(apply zd fun K hK=>?_)|apply Wp.block ?_|apply zh ?_|apply Rx.rt ?_|apply zk ?_)
   refine WpL.call rfl eVk eAk ?_;simp only[List.cons_append,List.nil_append,List.append_nil]
   refine zr.mono ?_ (zlJ hl s[i].toNat H')
   rintro v _ ⟨rfl,rfl⟩
   dsimp only[zA]
   repeat' (first
    | (apply Rx.nl ?_;clear hK K)|apply Rx.o ?_|apply Rx.gu ?_|(apply Rx.gd (fun hg hgp=>?_) (fun hg hgp=>?_)<;>try (cases hg;done))|(apply Rx.cd (fun hb hbp=>?_) (fun hb hbp=>?_)<;>try (cases hb;done))|apply Wp.seq ?_|(apply zd fun K hK=>?_)|apply Wp.block ?_|apply zh ?_|apply Rx.rt ?_|apply zk ?_)
   ·refine WpL.call rfl eVk eAk ?_;simp only[List.cons_append,List.nil_append,List.append_nil]
    refine zr.mono ?_ (zfd hd s[i].toNat _)
    rintro v _ ⟨rfl,rfl⟩
    dsimp only[zA]
    repeat' (first
     | (apply Rx.nl ?_;clear hK K)|apply Rx.o ?_|apply Rx.gu ?_|(apply Rx.gd (fun hg hgp=>?_) (fun hg hgp=>?_)<;>try (cases hg;done))|(apply Rx.cd (fun hb hbp=>?_) (fun hb hbp=>?_)<;>try (cases hb;done))|apply Wp.seq ?_|(apply zd fun K hK=>?_)|apply Wp.block ?_|apply zh ?_|apply Rx.rt ?_|apply zk ?_)
    ·have hwb:zdY s[i]=true:=by simp_all[zdY]
     refine⟨hlt,?_,eE,?_,rfl⟩
     ·rw[hc,hdr,hwb];simp;omega
     ·simp only[at_set,Nat.reduceBEq,cond_true,z9 (show i < 2 ^ 62 by omega)]
    ·have hwb:zdY s[i]=false:=by simp_all[zdY]
     all_goals (refine⟨eI,_,eR,?_⟩;try simp only[zp])
     exact⟨by rw[hc,hdr,hwb];simp,by first|rfl|trivial⟩
   ·have hwb:zdY s[i]=true:=by simp_all[zdY]
    refine⟨hlt,?_,eE,?_,rfl⟩
    ·rw[hc,hdr,hwb];simp;omega
    ·simp only[at_set,Nat.reduceBEq,cond_true,z9 (show i < 2 ^ 62 by omega)]
  ·all_goals (refine⟨eI,_,eR,?_⟩;try simp only[zp])
   have hie:i=s.length:=by omega
   refine⟨?_,by first|rfl|trivial⟩
   rw[hc,hie];simp[j5]
 ·exact⟨by simp,eE,eE,rfl⟩
theorem zgX {cfg:Cfg} (hw:Plain cfg 133) (s:List UInt8) (hs:s.length < 2 ^ 60) (H:Hp) :
 zr Try.prog cfg 133 [.str s] H fun v H'=>v=.int .i64 (yG false s)∧H'=H:=by
 refine zj (M:=34) (rs:=[.tmp 2]) (hw.call _) hw.ice hw.froz Try.func133 rfl rfl zu2.2 rfl ?_;dsimp only[zu2,zO,Nat.reduceAdd]
 repeat' (first
  | (apply Rx.nl ?_;clear hK K)|apply Rx.o ?_|(apply Rx.gd (fun hg hgp=>?_) (fun hg hgp=>?_)<;>try (cases hg;done))|(apply Rx.cd (fun hb hbp=>?_) (fun hb hbp=>?_)<;>try (cases hb;done))|apply Wp.seq ?_|(apply zd fun K hK=>?_)|apply Wp.block ?_|apply zh ?_|apply Rx.rt ?_|apply zk ?_)
 refine Wp.loop (fun n E H'=>∃ i:Nat,n=s.length - i∧i≤s.length∧yG false s=i+yG false (s.drop i)∧E.at 0=.str s∧E.at 3=.int .i64 i∧H'=H) ?_ (n:=s.length) ?_
 ·rintro n E H' ⟨i,rfl,hi,hc,h0,h3,rfl⟩
  repeat' (first
   | (apply Rx.nl ?_;clear hK K)|apply Rx.o ?_|(apply Rx.gd (fun hg hgp=>?_) (fun hg hgp=>?_)<;>try (cases hg;done))|(apply Rx.cd (fun hb hbp=>?_) (fun hb hbp=>?_)<;>try (cases hb;done))|apply Wp.seq ?_|(apply zd fun K hK=>?_)|apply Wp.block ?_|apply zh ?_|apply Rx.rt ?_|apply zk ?_)
  ·have hlt:i < s.length:=by omega
   have hgx:s[i]?=some s[i]:=List.getElem?_eq_getElem hlt
   have hdr:yG false (s.drop i)=if zaa s[i]then yG false (s.drop (i+1))+1 else if s[i].toNat=35 then yG true (s.drop (i+1))+1 else 0:=by rw[List.drop_eq_getElem_cons hlt,yG]
   repeat' (first
    | (apply Rx.nl ?_;clear hK K)|apply Rx.o ?_|(apply Rx.gd (fun hg hgp=>?_) (fun hg hgp=>?_)<;>try (cases hg;done))|(apply Rx.cd (fun hb hbp=>?_) (fun hb hbp=>?_)<;>try (cases hb;done))|apply Wp.seq ?_|(apply zd fun K hK=>?_)|apply Wp.block ?_|apply zh ?_|apply Rx.rt ?_|apply zk ?_)
   ·have hbl:zaa s[i]=true:=by unfold zaa;simp;omega
    refine⟨s.length - (i+1),by omega,i+1,rfl,by omega,?_,eE,?_,rfl⟩
    ·rw[hc,hdr,if_pos hbl];omega
    ·simp only[at_set,Nat.reduceBEq,cond_true,z9 (show i < 2 ^ 62 by omega)]
   ·have hbl:zaa s[i]=true:=by unfold zaa;simp;omega
    refine⟨s.length - (i+1),by omega,i+1,rfl,by omega,?_,eE,?_,rfl⟩
    ·rw[hc,hdr,if_pos hbl];omega
    ·simp only[at_set,Nat.reduceBEq,cond_true,z9 (show i < 2 ^ 62 by omega)]
   ·have hbl:zaa s[i]=true:=by unfold zaa;simp;omega
    refine⟨s.length - (i+1),by omega,i+1,rfl,by omega,?_,eE,?_,rfl⟩
    ·rw[hc,hdr,if_pos hbl];omega
    ·simp only[at_set,Nat.reduceBEq,cond_true,z9 (show i < 2 ^ 62 by omega)]
   ·have hbl:zaa s[i]=true:=by unfold zaa;simp;omega
    refine⟨s.length - (i+1),by omega,i+1,rfl,by omega,?_,eE,?_,rfl⟩
    ·rw[hc,hdr,if_pos hbl];omega
    ·simp only[at_set,Nat.reduceBEq,cond_true,z9 (show i < 2 ^ 62 by omega)]
   ·have hb35:s[i].toNat=35:=by omega
    have hbl:zaa s[i]=false:=by unfold zaa;simp;omega
    have hln:za4 (s.drop i)=za4 (s.drop (i+1))+1:=by rw[List.drop_eq_getElem_cons hlt,za4,if_neg (by omega)]
    have hsp:yG false s=i+za4 (s.drop i)+yG false (s.drop (i+za4 (s.drop i))):=by
     rw[hc,hdr,hbl,if_neg (by simp),if_pos hb35,zgP,List.drop_drop,hln,show i+1+za4 (s.drop (i+1))=i+(za4 (s.drop (i+1))+1) by omega];omega
    have hle:=zlf (s.drop i)
    rw[List.length_drop]at hle
    refine Wp.loop (fun n E H''=>∃ j:Nat,n=s.length - j∧i≤j∧j≤s.length∧i+za4 (s.drop i)=j+za4 (s.drop j)∧E.at 0=.str s∧E.at 3=.int .i64 j∧H''=H') ?_ (n:=s.length - i) ?_
    ·rintro n E2 H2 ⟨j,rfl,hij,hj,hlj,k0,k3,rfl⟩
     repeat' (first
      | (apply Rx.nl ?_;clear hK K)|apply Rx.o ?_|(apply Rx.gd (fun hg hgp=>?_) (fun hg hgp=>?_)<;>try (cases hg;done))|(apply Rx.cd (fun hb hbp=>?_) (fun hb hbp=>?_)<;>try (cases hb;done))|apply Wp.seq ?_|(apply zd fun K hK=>?_)|apply Wp.block ?_|apply zh ?_|apply Rx.rt ?_|apply zk ?_)
     ·have hlt2:j < s.length:=by omega
      have hgx2:s[j]?=some s[j]:=List.getElem?_eq_getElem hlt2
      have hdj:za4 (s.drop j)=if s[j].toNat=10 then 0 else za4 (s.drop (j+1))+1:=by rw[List.drop_eq_getElem_cons hlt2,za4]
      repeat' (first
       | (apply Rx.nl ?_;clear hK K)|apply Rx.o ?_|(apply Rx.gd (fun hg hgp=>?_) (fun hg hgp=>?_)<;>try (cases hg;done))|(apply Rx.cd (fun hb hbp=>?_) (fun hb hbp=>?_)<;>try (cases hb;done))|apply Wp.seq ?_|(apply zd fun K hK=>?_)|apply Wp.block ?_|apply zh ?_|apply Rx.rt ?_|apply zk ?_)
      ·refine⟨s.length - (j+1),by omega,j+1,rfl,by omega,by omega,?_,eE,?_,rfl⟩
       ·rw[hlj,hdj,if_neg (by simp_all;omega)];omega
       ·simp only[at_set,Nat.reduceBEq,cond_true,z9 (show j < 2 ^ 62 by omega)]
      ·have h10:s[j].toNat=10:=by simp_all;omega
       rw[hdj,if_pos h10,Nat.add_zero]at hlj
       refine⟨s.length - j,by omega,j,rfl,by omega,?_,eE,eE,by first|rfl|trivial⟩
       rw[hsp,hlj]
     ·have hje:j=s.length:=by omega
      have h0j:za4 (s.drop j)=0:=by rw[hje];simp[za4]
      rw[h0j,Nat.add_zero]at hlj
      refine⟨s.length - j,by omega,j,rfl,by omega,?_,eE,eE,by first|rfl|trivial⟩
      rw[hsp,hlj]
    ·exact⟨i,rfl,by omega,by omega,rfl,eE,eE,rfl⟩
   ·have hbl:zaa s[i]=false:=by unfold zaa;simp;omega
    all_goals (refine⟨eI,_,eR,?_⟩;try simp only[zp])
    refine⟨?_,by first|rfl|trivial⟩
    rw[hc,hdr,hbl,if_neg (by simp),if_neg (by omega)];simp
  ·all_goals (refine⟨eI,_,eR,?_⟩;try simp only[zp])
   have hie:i=s.length:=by omega
   refine⟨?_,by first|rfl|trivial⟩
   rw[hc,hie];simp[yG]
 ·exact⟨0,by simp,by omega,by simp,eE,eE,rfl⟩
end Go.Proofs.Ytpbcimfiofmoeaa
namespace Go.Proofs.Ytpbcimfiofmoeaa
set_option maxRecDepth 20000
set_option maxRecDepth 20000
open Go Go.Ab
namespace tyW4g
def tyF:=And.intro @tq3 (And.intro @tq9 (And.intro @zmE (And.intro @tq63 (And.intro @tq90 (And.intro @znG (And.intro @tq5 (And.intro @tq182 (And.intro @zsI (And.intro @zh5 (@Try.underlying9))))))))))
end tyW4g
open tyW4g
noncomputable def zu4:{ c:SC // slim 35 (Try.f145.body.getD .skip)=c }:=by
 refine⟨?_,?_⟩
 rotate_left
 ·simp only[Try.f145,Option.getD_some,slim,zZ,zS,z6,z7,Nat.blt,Nat.ble]
  rfl
noncomputable def zu5:{ c:SC // slim 41 (Try.f134.body.getD .skip)=c }:=by
 refine⟨?_,?_⟩
 rotate_left
 ·simp only[Try.f134,Option.getD_some,slim,zZ,zS,z6,z7,Nat.blt,Nat.ble]
  rfl
noncomputable def zu6:{ c:SC // slim 49 (Try.f112.body.getD .skip)=c }:=by
 refine⟨?_,?_⟩
 rotate_left
 ·simp only[Try.f112,Option.getD_some,slim,zZ,zS,z6,z7,Nat.blt,Nat.ble]
  rfl
theorem ziH {cfg:Cfg} (hw:Plain cfg 147) (hd:Plain cfg 146) (s:List UInt8) (h0:s≠[]) (hs:s.length < 2 ^ 60) (H:Hp) :
 zr Try.prog cfg 147 [.str s] H fun v H'=>(∃ b,v=.bool b)∧H'=H:=by
 have hpos:0 < s.length:=List.length_pos_iff.2 h0
 have hg0:s[0]?=some s[0]:=List.getElem?_eq_getElem hpos
 refine zj (M:=37) (rs:=[.tmp 2]) (hw.call _) hw.ice hw.froz Try.func147 rfl rfl zu3.2 rfl ?_;dsimp only[zu3,zO,Nat.reduceAdd]
 repeat' (first
  | (apply Rx.nl ?_;clear hK K)|apply Rx.o ?_|(apply Rx.cd (fun hb hbp=>?_) (fun hb hbp=>?_)<;>try (cases hb;done))|apply Wp.seq ?_|(apply zd fun K hK=>?_)|apply Wp.block ?_|apply zh ?_|apply Rx.rt ?_|apply zk ?_)
 refine zaq (fun i E H'=>E.at 0=.str s∧E.at 3=.int .i64 i∧H'=H) s.length ?_ ?_
 ·rintro i E H' hi ⟨k0,k3,rfl⟩
  repeat' (first
   | (apply Rx.nl ?_;clear hK K)|apply Rx.o ?_|(apply Rx.cd (fun hb hbp=>?_) (fun hb hbp=>?_)<;>try (cases hb;done))|apply Wp.seq ?_|(apply zd fun K hK=>?_)|apply Wp.block ?_|apply zh ?_|apply Rx.rt ?_|apply zk ?_)
  ·have hlt:i < s.length:=by omega
   have hgx:s[i]?=some s[i]:=List.getElem?_eq_getElem hlt
   repeat' (first
    | (apply Rx.nl ?_;clear hK K)|apply Rx.o ?_|(apply Rx.cd (fun hb hbp=>?_) (fun hb hbp=>?_)<;>try (cases hb;done))|apply Wp.seq ?_|(apply zd fun K hK=>?_)|apply Wp.block ?_|apply zh ?_|apply Rx.rt ?_|apply zk ?_)
   refine WpL.call rfl eVk eAk ?_;simp only[List.cons_append,List.nil_append,List.append_nil]
   refine zr.mono ?_ (zfd hd s[i].toNat H')
   rintro v _ ⟨rfl,rfl⟩
   dsimp only[zA]
   repeat' (first
    | (apply Rx.nl ?_;clear hK K)|apply Rx.o ?_|(apply Rx.cd (fun hb hbp=>?_) (fun hb hbp=>?_)<;>try (cases hb;done))|apply Wp.seq ?_|(apply zd fun K hK=>?_)|apply Wp.block ?_|apply zh ?_|apply Rx.rt ?_|apply zk ?_)
   ·all_goals (refine⟨eI,_,eR,?_⟩;try simp only[zp])
    exact⟨⟨_,rfl⟩,by first|rfl|trivial⟩
   ·refine⟨hlt,eE,?_,by first|rfl|trivial⟩
    simp only[at_set,Nat.reduceBEq,cond_true,z9 (show i < 2 ^ 62 by omega)]
  ·repeat' (first
    | (apply Rx.nl ?_;clear hK K)|apply Ry.o ?_|apply Ry.gu ?_|(apply Ry.gd (fun hg hgp=>?_) (fun hg hgp=>?_)<;>try (cases hg;done))|apply Wp.seq ?_|(apply zd fun K hK=>?_)|apply Wp.block ?_|apply zh ?_|apply Rx.rt ?_|apply zk ?_)
   all_goals (refine⟨eI,_,eR,?_⟩;try simp only[zp])
   all_goals exact⟨⟨_,rfl⟩,by first|rfl|trivial⟩
 ·exact⟨eE,eE,rfl⟩
def symsL:List (List UInt8):=[[62,62,62],[60,60],[62,62],[60,61],[62,61],[61,61],[33,61]]
theorem zkl {cfg:Cfg} (hw:Plain cfg 145) (hplan:∀ id,cfg.plan 145 id=.text) (s:List UInt8) (h0:s≠[]) (hs:s.length < 2 ^ 60) (H:Hp) :
 zr Try.prog cfg 145 [.str s] H fun v H'=>(∃ n:Nat,v=.int .i64 n∧n≤s.length)∧H'=H:=by
 have hpos:0 < s.length:=List.length_pos_iff.2 h0
 have hg0:s[0]?=some s[0]:=List.getElem?_eq_getElem hpos
 have hbld:yj Try.prog 182 [(0,.str [62,62,62]),(1,.str [60,60]),(2,.str [62,62]),(3,.str [60,61]),(4,.str [62,61]),(5,.str [61,61]),(6,.str [33,61])]=some (.agg [.str [62,62,62],.str [60,60],.str [62,62],.str [60,61],.str [62,61],.str [61,61],.str [33,61]]):=by kernel_rfl
 refine zj (M:=35) (rs:=[.tmp 2]) (hw.call _) hw.ice hw.froz Try.func145 rfl rfl zu4.2 rfl ?_;dsimp only[zu4,zO,Nat.reduceAdd]
 repeat' (first
  | (apply Rx.nl ?_;clear hK K)|apply Rx.o ?_|(apply Rx.gd (fun hg hgp=>?_) (fun hg hgp=>?_)<;>try (cases hg;done))|(apply Rx.cd (fun hb hbp=>?_) (fun hb hbp=>?_)<;>try (cases hb;done))|apply Wp.seq ?_|(apply zd fun K hK=>?_)|(apply yo 10 fun K hK=>?_)|apply Wp.block ?_|apply zh ?_|apply Rx.rt ?_|apply zk ?_)
 refine zaq (fun i E H'=>E.at 0=.str s∧E.at 6=.agg [.str [62,62,62],.str [60,60],.str [62,62],.str [60,61],.str [62,61],.str [61,61],.str [33,61]]∧E.at 7=.int .i64 i∧H'=H) 7 ?_ ?_
 ·rintro i E H' hi ⟨k0,k6,k7,rfl⟩
  repeat' (first
   | (apply Rx.nl ?_;clear hK K)|apply Rx.o ?_|(apply Rx.gd (fun hg hgp=>?_) (fun hg hgp=>?_)<;>try (cases hg;done))|(apply Rx.cd (fun hb hbp=>?_) (fun hb hbp=>?_)<;>try (cases hb;done))|apply Wp.seq ?_|(apply zd fun K hK=>?_)|(apply yo 10 fun K hK=>?_)|apply Wp.block ?_|apply zh ?_|apply Rx.rt ?_|apply zk ?_)
  ·have hlt:i < 7:=by omega
   have hix:∃ w:List UInt8,zbX Try.prog 182 (.agg [.str [62,62,62],.str [60,60],.str [62,62],.str [60,61],.str [62,61],.str [61,61],.str [33,61]]) (.int .i64 i)=some (.str w):=by
    refine⟨symsL.getD i [],?_⟩
    rcases (show i=0∨i=1∨i=2∨i=3∨i=4∨i=5∨i=6 by omega)with rfl|rfl|rfl|rfl|rfl|rfl|rfl<;>kernel_rfl
   obtain⟨w,hw1⟩:=hix
   repeat' (first
    | (apply Rx.nl ?_;clear hK K)|apply Rx.o ?_|(apply Rx.gd (fun hg hgp=>?_) (fun hg hgp=>?_)<;>try (cases hg;done))|(apply Rx.cd (fun hb hbp=>?_) (fun hb hbp=>?_)<;>try (cases hb;done))|apply Wp.seq ?_|(apply zd fun K hK=>?_)|(apply yo 10 fun K hK=>?_)|apply Wp.block ?_|apply zh ?_|apply Rx.rt ?_|apply zk ?_)
   ·have hwl:w.length≤s.length:=by omega
    repeat' (first
     | (apply Rx.nl ?_;clear hK K)|apply Rx.o ?_|(apply Rx.gd (fun hg hgp=>?_) (fun hg hgp=>?_)<;>try (cases hg;done))|(apply Rx.cd (fun hb hbp=>?_) (fun hb hbp=>?_)<;>try (cases hb;done))|apply Wp.seq ?_|(apply zd fun K hK=>?_)|(apply yo 10 fun K hK=>?_)|apply Wp.block ?_|apply zh ?_|apply Rx.rt ?_|apply zk ?_)
    ·all_goals (refine⟨eI,_,eR,?_⟩;try simp only[zp])
     exact⟨⟨w.length,rfl,hwl⟩,by first|rfl|trivial⟩
    ·refine⟨hlt,eE,eE,?_,by first|rfl|trivial⟩
     simp only[at_set,Nat.reduceBEq,cond_true,z9 (show i < 2 ^ 62 by omega)]
   ·refine⟨hlt,eE,eE,?_,by first|rfl|trivial⟩
    simp only[at_set,Nat.reduceBEq,cond_true,z9 (show i < 2 ^ 62 by omega)]
  ·repeat' (first
    | (apply Rx.nl ?_;clear hK K)|apply Rx.o ?_|(apply Rx.gd (fun hg hgp=>?_) (fun hg hgp=>?_)<;>try (cases hg;done))|(apply Rx.cd (fun hb hbp=>?_) (fun hb hbp=>?_)<;>try (cases hb;done))|apply Wp.seq ?_|(apply zd fun K hK=>?_)|(apply yo 10 fun K hK=>?_)|apply Wp.block ?_|apply zh ?_|apply Rx.rt ?_|apply zk ?_)
   refine zaq (fun i E H''=>E.at 0=.str s∧E.at 5=.int .i64 i∧H''=H') 23 ?_ ?_
   ·rintro j E H'' hj ⟨k0,k5,rfl⟩
    repeat' (first
     | (apply Rx.nl ?_;clear hK K)|apply Rx.o ?_|(apply Rx.gd (fun hg hgp=>?_) (fun hg hgp=>?_)<;>try (cases hg;done))|(apply Rx.cd (fun hb hbp=>?_) (fun hb hbp=>?_)<;>try (cases hb;done))|apply Wp.seq ?_|(apply zd fun K hK=>?_)|(apply yo 10 fun K hK=>?_)|apply Wp.block ?_|apply zh ?_|apply Rx.rt ?_|apply zk ?_)
    ·have hlt:j < 23:=by omega
     have hg1:∃ b,([43,45,42,47,37,38,124,94,126,33,60,62,61,63,58,59,44,40,41,123,125,91,93]:List UInt8)[j]?=some b:=by
      rw[List.getElem?_eq_getElem (by simpa using hlt)];exact⟨_,rfl⟩
     obtain⟨b,hg1⟩:=hg1
     repeat' (first
      | (apply Rx.nl ?_;clear hK K)|apply Ry.o ?_|(apply Ry.cd (fun hb hbp=>?_) (fun hb hbp=>?_)<;>try (cases hb;done))|apply Wp.seq ?_|(apply zd fun K hK=>?_)|(apply yo 10 fun K hK=>?_)|apply Wp.block ?_|apply zh ?_|apply Rx.rt ?_|apply zk ?_)
     ·all_goals (refine⟨eI,_,eR,?_⟩;try simp only[zp])
      exact⟨⟨1,rfl,hpos⟩,by first|rfl|trivial⟩
     ·refine⟨hlt,eE,?_,by first|rfl|trivial⟩
      simp only[at_set,Nat.reduceBEq,cond_true,z9 (show j < 2 ^ 62 by omega)]
    ·all_goals (refine⟨eI,_,eR,?_⟩;try simp only[zp])
     exact⟨⟨0,rfl,Nat.zero_le _⟩,by first|rfl|trivial⟩
   ·exact⟨eE,eE,rfl⟩
 ·exact⟨eE,eE,eE,rfl⟩
end Go.Proofs.Ytpbcimfiofmoeaa
namespace Go.Proofs.Ytpbcimfiofmoeaa
set_option maxRecDepth 20000
set_option maxRecDepth 20000
open Go Go.Ab
namespace tyW4h
def tyF:=And.intro @tq3 (And.intro @tq9 (And.intro @znG (And.intro @zh5 (@Try.underlying9))))
end tyW4h
open tyW4h
structure Lexers (cfg:Cfg):Prop where
 let_:Plain cfg 151
 dig:Plain cfg 146
 word:Plain cfg 144
 space:Plain cfg 133
 num:Plain cfg 147
 sym:Plain cfg 145
 first:Plain cfg 134
 scan:Plain cfg 112
 plan:∀ id,cfg.plan 145 id=.text
 keep:cfg.keep 112=false
theorem zhs (a:Int) (x:List UInt8):yj Try.prog 119 [(0,.int .i64 a),(1,.str x)]=some (.agg [.int .i64 a,.str x,.int .i64 0]):=by kernel_rfl
theorem zht:yj Try.prog 119 []=some (.agg [.int .i64 0,.str [],.int .i64 0]):=by kernel_rfl
theorem agg3 (a b c:AV):yL 3 [a,b,c]=some (.agg [a,b,c]):=rfl
theorem zm4 (H:Hp) (a b:HB):FrB 0 H ((H.alloc a).set H.next b):=((FrB.refl _ _).alloc _).set (.inl (Nat.le_refl _)) _
theorem zrc {cfg:Cfg} (hx:Lexers cfg) (s:List UInt8) (h0:s≠[]) (hs:s.length < 2 ^ 60) (H:Hp) :
 zr Try.prog cfg 134 [.str s] H fun v H'=>(∃ k e,v=.tup [.agg k.cells,.int .i64 e]∧zqx s k e)∧FrB 0 H H':=by
 have hw:=hx.first
 have hpos:0 < s.length:=List.length_pos_iff.2 h0
 have hg0:s[0]?=some s[0]:=List.getElem?_eq_getElem hpos
 have hwl:=zle s
 refine zj (M:=41) (rs:=[.cell 2 119,.tmp 3]) (hw.call _) hw.ice hw.froz Try.func134 rfl rfl zu5.2 rfl ?_;dsimp only[zu5,zO,Nat.reduceAdd]
 repeat' (first
  | (apply Rx.nl ?_;clear hK K)|apply Rx.o ?_|apply Rx.on ?_|(apply Rx.cd (fun hb hbp=>?_) (fun hb hbp=>?_)<;>try (cases hb;done))|apply Wp.seq ?_|(apply zd fun K hK=>?_)|apply Wp.block ?_|apply zh ?_|apply Rx.rt ?_)
 refine WpL.call rfl eVk eAk ?_;simp only[List.cons_append,List.nil_append,List.append_nil]
 refine zr.mono ?_ (zm3 hx.word hx.let_ hx.dig s hs _)
 rintro v _ ⟨rfl,rfl⟩
 dsimp only[zA]
 have gh0:=@zhs
 have gh1:=@zht
 repeat' (first
  | (apply Rx.nl ?_;clear hK K)|apply Ry.o ?_|(apply Ry.cd (fun hb hbp=>?_) (fun hb hbp=>?_)<;>try (cases hb;done))|apply Wp.seq ?_|(apply zd fun K hK=>?_)|apply Wp.block ?_|apply zh ?_|apply Rx.rt ?_)
 ·refine WpL.call rfl eVk eAk ?_;simp only[List.cons_append,List.nil_append,List.append_nil]
  refine zr.mono ?_ (zkl hx.sym hx.plan s h0 hs _)
  rintro v _ ⟨⟨n,rfl,hn⟩,rfl⟩
  dsimp only[zA]
  have gh0:=@zhs
  have gh1:=@zht
  repeat' (first
   | (apply Rx.nl ?_;clear hK K)|apply Rx.o ?_|apply Rx.on ?_|(apply Rx.cd (fun hb hbp=>?_) (fun hb hbp=>?_)<;>try (cases hb;done))|apply Wp.seq ?_|(apply zd fun K hK=>?_)|apply Wp.block ?_|apply zh ?_|apply Rx.rt ?_)
  ·refine⟨eI,_,(by(try simp only[sB,sO,Nat.reduceBEq,Nat.reduceAdd,Nat.reduceLeDiff,tyF,zQ,yb,agg3, *]);first|done|with_reducible rfl),?_⟩;try simp only[zp]
   exact⟨⟨⟨0,[],0⟩,2,rfl,rfl,by simp,fun h1=>by omega⟩,zm4 _ _ _⟩
  ·refine⟨eI,_,(by(try simp only[sB,sO,Nat.reduceBEq,Nat.reduceAdd,Nat.reduceLeDiff,tyF,zQ,yb,agg3, *]);first|done|with_reducible rfl),?_⟩;try simp only[zp]
   refine⟨⟨⟨3,s.take n,0⟩,0,rfl,rfl,fun _=>⟨n,by omega,hn,rfl,by simp⟩,fun h1=>by omega⟩,zm4 _ _ _⟩
 ·refine WpL.call rfl eVk eAk ?_;simp only[List.cons_append,List.nil_append,List.append_nil]
  refine zr.mono ?_ (zfd hx.dig s[0].toNat _)
  rintro v _ ⟨rfl,rfl⟩
  dsimp only[zA]
  have hsl:=zh5 (P:=Try.prog) (k:=.i64) (s:=s) Try.underlying9 hwl
  have gh0:=@zhs
  have gh1:=@zht
  repeat' (first
   | (apply Rx.nl ?_;clear hK K)|apply Rx.o ?_|apply Rx.on ?_|(apply Rx.cd (fun hb hbp=>?_) (fun hb hbp=>?_)<;>try (cases hb;done))|apply Wp.seq ?_|(apply zd fun K hK=>?_)|apply Wp.block ?_|apply zh ?_|apply Rx.rt ?_)
  ·have hne:s.take (j5 s)≠[]:=by
    intro h
    have:=congrArg List.length h
    rw[List.length_take,Nat.min_eq_left hwl,List.length_nil]at this
    omega
   refine WpL.call rfl eVk eAk ?_;simp only[List.cons_append,List.nil_append,List.append_nil]
   refine zr.mono ?_ (ziH hx.num hx.dig (s.take (j5 s)) hne (by rw[List.length_take];omega) _)
   rintro v _ ⟨⟨ok,rfl⟩,rfl⟩
   dsimp only[zA]
   have gh0:=@zhs
   have gh1:=@zht
   repeat' (first
    | (apply Rx.nl ?_;clear hK K)|apply Rx.o ?_|apply Rx.on ?_|(apply Rx.cd (fun hb hbp=>?_) (fun hb hbp=>?_)<;>try (cases hb;done))|apply Wp.seq ?_|(apply zd fun K hK=>?_)|apply Wp.block ?_|apply zh ?_|apply Rx.rt ?_)
   ·refine⟨eI,_,(by(try simp only[sB,sO,Nat.reduceBEq,Nat.reduceAdd,Nat.reduceLeDiff,tyF,zQ,yb,agg3, *]);first|done|with_reducible rfl),?_⟩;try simp only[zp]
    refine⟨⟨⟨0,[],0⟩,2,rfl,rfl,by simp,fun h1 h2 h3=>?_⟩,zm4 _ _ _⟩
    have:=h3 _ hg0
    simp_all
   ·refine⟨eI,_,(by(try simp only[sB,sO,Nat.reduceBEq,Nat.reduceAdd,Nat.reduceLeDiff,tyF,zQ,yb,agg3, *]);first|done|with_reducible rfl),?_⟩;try simp only[zp]
    refine⟨⟨⟨2,s.take (j5 s),0⟩,0,rfl,rfl,fun _=>⟨j5 s,by omega,hwl,rfl,by simp⟩,fun h1 h2 h3=>?_⟩,zm4 _ _ _⟩
    have:=h3 _ hg0
    simp_all
  ·refine⟨eI,_,(by(try simp only[sB,sO,Nat.reduceBEq,Nat.reduceAdd,Nat.reduceLeDiff,tyF,zQ,yb,agg3, *]);first|done|with_reducible rfl),?_⟩;try simp only[zp]
   exact⟨⟨⟨0,[],0⟩,6,rfl,rfl,by simp,fun h1 h2=>by omega⟩,zm4 _ _ _⟩
  ·refine⟨eI,_,(by(try simp only[sB,sO,Nat.reduceBEq,Nat.reduceAdd,Nat.reduceLeDiff,tyF,zQ,yb,agg3, *]);first|done|with_reducible rfl),?_⟩;try simp only[zp]
   refine⟨⟨⟨1,s.take (j5 s),0⟩,0,rfl,rfl,fun _=>⟨j5 s,by omega,hwl,rfl,fun _=>⟨rfl,by omega,fun b hb=>?_⟩⟩,fun _ _ _=>⟨rfl,rfl⟩⟩,zm4 _ _ _⟩
   rw[hg0]at hb
   simp only[Option.some.injEq]at hb
   subst hb
   assumption
end Go.Proofs.Ytpbcimfiofmoeaa
namespace Go.Proofs.Ytpbcimfiofmoeaa
set_option maxRecDepth 20000
set_option maxRecDepth 20000
open Go Go.Ab
namespace tyW4i
def tyF:=And.intro @tq3 (And.intro @tq9 (And.intro @zmE (And.intro @tq63 (And.intro @tq90 (@znG)))))
end tyW4i
open tyW4i
theorem zob (a b:Int):yj Try.prog 63 [(0,.int .i64 a),(1,.int .i64 b)]=some (.agg [.int .i64 a,.int .i64 b]):=by kernel_rfl
theorem zoc:yj Try.prog 63 []=some (.agg [.int .i64 0,.int .i64 0]):=by kernel_rfl
theorem agg2 (a b:AV):yL 2 [a,b]=some (.agg [a,b]):=rfl
theorem tk_at (k:Tk) (x:Int):List.take 2 k.cells++[.int .i64 x]++List.drop 3 k.cells=(Tk.mk k.kind k.text x).cells:=rfl
theorem bs90 (H:Hp) (k:Tk):zI Try.prog H 90 1 [(0,.agg k.cells)]=some (.sl H.next 0 1 3,H.alloc (.cells k.cells 0 true)):=by kernel_rfl
theorem zm5 {H0 H:Hp}{lv:AV}{ts:List Tk} (hrep:zgg H0.next H lv ts) (hf:FrB 0 H0 H) (hlo:H0.next < H.next) (k:Tk) {r':Nat} (hg:H.get r'=some (.cells k.cells 0 true)) (hb:ts.length < 2 ^ 40) :
 ∃ H6,zX Try.prog false H 90 90 lv (.sl r' 0 1 3)=some (.sl H.next 0 (ts.length+1) 3,H6)∧H6.next=H.next+1∧zgg H0.next H6 (.sl H.next 0 (ts.length+1) 3) (ts++[k])∧FrB 0 H0 H6∧∀ j,j < H.next→lv≠.sl j 0 ts.length 3→H6.get j=H.get j:=by
 have hsrc:yk H 3 (.sl r' 0 1 3)=some (0+1,k.cells):=by
  have:=zdV (H:=H) (r:=r') (o:=0) (n:=1) (z:=3) (s:=3) hg (by rw[List.drop_zero,List.length_take,Tk.clen];rfl)
  rw[this,List.drop_zero,List.take_of_length_le (by rw[Tk.clen];omega)]
 have hm:zW=70368744177664:=rfl
 rcases hrep with ⟨rfl,rfl⟩|⟨r,rfl,q2,q3,q4,q5⟩
 ·refine⟨H.alloc (.cells k.cells 0 true),?_,rfl,.inr ⟨H.next,by simp,?_,hlo,Nat.lt_succ_self _,by simp⟩,hf.alloc _,fun j hj _=>?_⟩
  ·exact append_nil Try.underlying90 znF zp0 zp1 (by kernel_rfl) hsrc k.one rfl (by rw[hm];omega) (by rw[hm];omega)
  ·rw[za,if_pos rfl];simp
  ·rw[za,if_neg (by omega)]
 ·refine⟨(H.kill r).alloc (.cells (ts.flatMap Tk.cells++k.cells) 0 true),?_,rfl,.inr ⟨H.next,by simp,?_,hlo,Nat.lt_succ_self _,by simp⟩,(hf.kill (by omega)).alloc _,fun j hj hne=>?_⟩
  ·exact zoW Try.underlying90 znF zp0 zp1 (by kernel_rfl) hsrc k.one rfl q2 (zlh ts) (by rw[hm];omega) (by rw[hm];omega)
  ·show((H.kill r).alloc _).get (H.kill r).next=_
   rw[za,if_pos rfl];simp
  ·have hjr:¬ j=r:=fun e=>hne (by rw[e])
   rw[za,if_neg (by simp only[zY];omega),zR,if_neg hjr]
def zrd (s:List UInt8) (H:Hp) (v:AV) (H':Hp):Prop:=
 ∃ (why at':Int) (lv:AV),v=.tup [lv,.agg [.int .i64 why,.int .i64 at']]∧FrB 0 H H'∧((why≠0∧¬ zlg s)∨(why=0∧∃ ts,zgg H.next H' lv ts∧znM s ts∧(zlg s→ts=[⟨1,s,0⟩])))
theorem zu7 {cfg:Cfg} (hx:Lexers cfg) (s:List UInt8) (hs:s.length < 2 ^ 60) (H:Hp):zr Try.prog cfg 112 [.str s] H (zrd s H):=by
 have hw:=hx.scan
 refine zj (M:=49) (rs:=[.tmp 2,.cell 3 63]) (hw.call _) hw.ice hw.froz Try.func112 rfl rfl zu6.2 rfl ?_;dsimp only[zu6,zO,Nat.reduceAdd]
 have gh0:=@zob
 have gh1:=@zoc
 repeat' (first
  | (apply Rx.nl ?_;clear hK K)|apply Rx.o ?_|apply Rx.on ?_|(apply Rx.cd (fun hb hbp=>?_) (fun hb hbp=>?_)<;>try (cases hb;done))|apply Wp.seq ?_|(apply zd fun K hK=>?_)|apply Wp.block ?_|apply zh ?_|apply Rx.rt ?_|apply zk ?_)
 ·refine⟨eI,_,(by(try simp only[sB,sO,Nat.reduceBEq,Nat.reduceAdd,Nat.reduceLeDiff,tyF,zQ,yb,agg2, *]);first|done|with_reducible rfl),?_⟩;try simp only[zp]
  refine⟨6,20000,.nilS,rfl,zm4 _ _ _,.inl ⟨by simp,fun h=>?_⟩⟩
  have:=h.2.2.1
  omega
 ·refine WpL.call rfl eVk eAk ?_;simp only[List.cons_append,List.nil_append,List.append_nil]
  refine zr.mono ?_ (zgX hx.space s hs _)
  rintro v _ ⟨rfl,rfl⟩
  dsimp only[zA]
  repeat' (first
   | (apply Rx.nl ?_;clear hK K)|apply Rx.o ?_|apply Rx.on ?_|(apply Rx.cd (fun hb hbp=>?_) (fun hb hbp=>?_)<;>try (cases hb;done))|apply Wp.seq ?_|(apply zd fun K hK=>?_)|apply Wp.block ?_|apply zh ?_|apply Rx.rt ?_|apply zk ?_)
  have hsp:=zbV false s
  refine Wp.loop (fun n E H2=>∃ (at':Nat) (ts:List Tk) (lv:AV),n=s.length - at'∧at'≤s.length∧E.at 0=.str s∧E.at 3=.ptr H.next 0∧E.at 4=lv∧E.at 5=.int .i64 at'∧FrB 0 H H2∧H.next < H2.next ∧
   H2.get H.next=some (.cells [.int .i64 0,.int .i64 0] 0 true)∧zgg H.next H2 lv ts∧ts.length≤at'∧znM s ts∧(ts=[]→at'=yG false s)∧(zlg s→(ts=[]∧at'=0)∨(ts=[⟨1,s,0⟩]∧at'=s.length))) ?_ (n:=s.length - yG false s) ?_
  ·rintro n E H2 ⟨at',ts,lv,rfl,ha,h0,h3,h4,h5,hf2,hn2,hg2,hrep,htl,hhead,hfirst,hnm⟩
   have e1:(H.next == H2.next)=false:=by simp;omega
   repeat' (first
    | (apply Rx.nl ?_;clear hK K)|apply Rx.o ?_|apply Rx.on ?_|(apply Rx.cd (fun hb hbp=>?_) (fun hb hbp=>?_)<;>try (cases hb;done))|apply Wp.seq ?_|(apply zd fun K hK=>?_)|apply Wp.block ?_|apply zh ?_|apply Rx.rt ?_|apply zk ?_)
   ·have hlt:at' < s.length:=by omega
    have hslo:=zk7 (P:=Try.prog) (k:=.i64) (s:=s) (m:=at') Try.underlying9 ha
    repeat' (first
     | (apply Rx.nl ?_;clear hK K)|apply Rx.o ?_|apply Rx.on ?_|(apply Rx.cd (fun hb hbp=>?_) (fun hb hbp=>?_)<;>try (cases hb;done))|apply Wp.seq ?_|(apply zd fun K hK=>?_)|apply Wp.block ?_|apply zh ?_|apply Rx.rt ?_|apply zk ?_)
    have hne:s.drop at'≠[]:=by
     intro h
     have:=congrArg List.length h
     rw[List.length_drop,List.length_nil]at this
     omega
    refine WpL.call rfl eVk eAk ?_;simp only[List.cons_append,List.nil_append,List.append_nil]
    refine zr.mono ?_ (zrc hx (s.drop at') hne (by rw[List.length_drop];omega) H2)
    rintro v H3 ⟨⟨k,e,rfl,hk⟩,hf3⟩
    have hn3:=hf3.next
    have hg3:H3.get H.next=some (.cells [.int .i64 0,.int .i64 0] 0 true):=by rw[hf3.get _ (Nat.zero_le _) hn2];exact hg2
    have hrep3:zgg H.next H3 lv ts:=by
     rcases hrep with h|⟨r,q1,q2,q3,q4,q5⟩
     ·exact .inl h
     ·exact .inr ⟨r,q1,by rw[hf3.get _ (Nat.zero_le _) q4];exact q2,q3,by omega,q5⟩
    have e2:(H.next == H3.next)=false:=by simp;omega
    dsimp only[zA]
    have hx1:Ab.extract (.tup [.agg k.cells,.int .i64 e]) 0=some (.agg k.cells):=rfl
    have hx2:Ab.extract (.tup [.agg k.cells,.int .i64 e]) 1=some (.int .i64 e):=rfl
    have gh0:=@zob
    repeat' (first
     | (apply Rx.nl ?_;clear hK K)|apply Rx.o ?_|apply Rx.on ?_|(apply Rx.cd (fun hb hbp=>?_) (fun hb hbp=>?_)<;>try (cases hb;done))|apply Wp.seq ?_|(apply zd fun K hK=>?_)|apply Wp.block ?_|apply zh ?_|apply Rx.rt ?_|apply zk ?_)
    ·have he:e≠0:=by simpa using hb
     refine⟨eI,_,(by(try simp only[sB,sO,Nat.reduceBEq,Nat.reduceAdd,Nat.reduceLeDiff,tyF,zQ,yb,agg2, *]);first|done|with_reducible rfl),?_⟩;try simp only[zp]
     refine⟨e,at',.nilS,rfl,?_,.inl ⟨he,fun h=>?_⟩⟩
     ·exact((((hf2.trans hf3).alloc _).set (.inl (by omega)) _).set (.inl (Nat.le_refl _)) _)
     ·rcases hnm h with ⟨_,q⟩|⟨_,q⟩
      ·subst q
       exact he (hk.2.2 h.1 (by have:=h.2.1;have:=h.2.2.1;simp only[List.drop_zero];omega) h.2.2.2).1
      ·omega
    ·have he:e=0:=by simpa using hb
     have gh0:=@tk_at
     have gh1:=@bs90
     repeat' (first
      | (apply Rx.nl ?_;clear hK K)|apply Rx.o ?_|apply Rx.on ?_|(apply Rx.cd (fun hb hbp=>?_) (fun hb hbp=>?_)<;>try (cases hb;done))|apply Wp.seq ?_|(apply zd fun K hK=>?_)|apply Wp.block ?_|apply zh ?_|apply Rx.rt ?_|apply zk ?_)
     generalize hk':Tk.mk k.kind k.text (at':Int)=k'
     generalize hH5:Hp.alloc _ (HB.cells (Tk.cells k') 0 true)=H5
     have hn5:H5.next=H3.next+2:=by rw[← hH5];rfl
     have hg5:H5.get (H3.next+1)=some (.cells k'.cells 0 true):=by rw[← hH5];simp only[get_set,get_alloc,zb,ze,nb1,nb2,nb3,Nat.add_assoc,Nat.reduceAdd,beq_self_eq_true,cond_true,cond_false,Nat.reduceBEq]
     have hg5a:H5.get H3.next=some (.cells k'.cells 0 true):=by rw[← hH5];simp only[get_set,get_alloc,zb,ze,nb1,nb2,nb3,Nat.add_assoc,Nat.reduceAdd,beq_self_eq_true,cond_true,cond_false,Nat.reduceBEq]
     have hf5:FrB 0 H3 H5:=by rw[← hH5];exact(((FrB.refl _ _).alloc _).set (.inl (Nat.le_refl _)) _).set (.inl (Nat.le_refl _)) _ |>.alloc _
     have hF5:FrB 0 H H5:=(hf2.trans hf3).trans hf5
     have hrep5:zgg H.next H5 lv ts:=by
      rcases hrep3 with h|⟨r,q1,q2,q3,q4,q5⟩
      ·exact .inl h
      ·exact .inr ⟨r,q1,by rw[hf5.get _ (Nat.zero_le _) q4];exact q2,q3,by omega,q5⟩
     obtain⟨H6,p1,p2,p3,p4,p5⟩:=zm5 hrep5 hF5 (by omega) k' hg5 (by omega)
     have hkeep:=hx.keep
     have hg6:H6.get H.next=some (.cells [.int .i64 0,.int .i64 0] 0 true):=by
      rw[p5 _ (by omega) (fun e=>by rcases hrep3 with ⟨_,q⟩|⟨r,q1,_,q3,_⟩<;>simp_all),hf5.get _ (Nat.zero_le _) (by omega)];exact hg3
     have hg6a:H6.get H3.next=some (.cells k'.cells 0 true):=by
      rw[p5 _ (by omega) (fun e=>by rcases hrep3 with ⟨_,q⟩|⟨r,q1,_,q3,q4,_⟩<;>simp_all)];exact hg5a
     obtain⟨n,hn1,hn2',hkt,hkk⟩:=hk.2.1 he
     rw[List.length_drop]at hn2'
     have hktl:k'.text.length=n:=by rw[← hk'];show k.text.length=n;rw[hkt,List.length_take,List.length_drop];omega
     have hwr:IntKind.wrap .i64 ((at':Int)+(n:Int))=((at'+n:Nat):Int):=by rw[IntWalk.i64_in _ (by omega)];omega
     have hslo2:=zk7 (P:=Try.prog) (k:=.i64) (s:=s) (m:=at'+n) Try.underlying9 (by omega)
     refine WpL.append eV eV (by rw[hkeep];exact p1) ?_
     repeat' (first
      | (apply Rx.nl ?_;clear hK K)|apply Rx.o ?_|apply Rx.on ?_|(apply Rx.cd (fun hb hbp=>?_) (fun hb hbp=>?_)<;>try (cases hb;done))|apply Wp.seq ?_|(apply zd fun K hK=>?_)|apply Wp.block ?_|apply zh ?_|apply Rx.rt ?_|apply zk ?_)
     refine WpL.call rfl eVk eAk ?_;simp only[List.cons_append,List.nil_append,List.append_nil]
     refine zr.mono ?_ (zgX hx.space (s.drop (at'+n)) (by rw[List.length_drop];omega) _)
     rintro v _ ⟨rfl,rfl⟩
     dsimp only[zA]
     have hsp2:=zbV false (s.drop (at'+n))
     rw[List.length_drop]at hsp2
     have hwr2:IntKind.wrap .i64 (((at'+n:Nat):Int)+(yG false (s.drop (at'+n)):Int))=((at'+n+yG false (s.drop (at'+n)):Nat):Int):=by rw[IntWalk.i64_in _ (by omega)];omega
     repeat' (first
      | (apply Rx.nl ?_;clear hK K)|apply Rx.o ?_|apply Rx.on ?_|(apply Rx.cd (fun hb hbp=>?_) (fun hb hbp=>?_)<;>try (cases hb;done))|apply Wp.seq ?_|(apply zd fun K hK=>?_)|apply Wp.block ?_|apply zh ?_|apply Rx.rt ?_|apply zk ?_)
     refine⟨s.length - (at'+n+yG false (s.drop (at'+n))),by omega,at'+n+yG false (s.drop (at'+n)),ts++[k'],.sl H5.next 0 (ts.length+1) 3,rfl,by omega,eE,eE,eE,(by first|(simp only[sB,Nat.reduceBEq,Nat.add_assoc, *];done)|rfl),p4,by omega,hg6,p3,by simp;omega,fun t rest hr=>?_,by simp,fun h=>.inr ?_⟩
     ·cases ts with
      | nil=>
        simp only[List.nil_append,List.cons.injEq]at hr
        obtain⟨rfl,_⟩:=hr
        rw[← hfirst rfl]
        exact⟨k,by rw[← he];exact hk,by rw[← hk'],by rw[← hk']⟩
      | cons t0 ts=>
        simp only[List.cons_append,List.cons.injEq]at hr
        obtain⟨rfl,_⟩:=hr
        exact hhead _ _ rfl
     ·rcases hnm h with ⟨rfl,q⟩|⟨_,q⟩
      ·subst q
       have hk2:=(hk.2.2 h.1 (by have:=h.2.1;have:=h.2.2.1;simp only[List.drop_zero];omega) h.2.2.2).2
       simp only[List.drop_zero]at hk2 hkt
       have hwn:j5 s=s.length:=h.2.1
       rw[hwn,List.take_length]at hk2
       have hns:n=s.length:=by
        have:=congrArg List.length hkt
        rw[hk2,List.length_take]at this
        have h3:s.length=min n s.length:=this
        omega
       have hkk2:k'=⟨1,s,0⟩:=by rw[← hk',hk2];rfl
       refine⟨by rw[hkk2];rfl,?_⟩
       rw[hns];simp[yG]
      ·omega
   ·have hat:at'=s.length:=by omega
    have gh0:=@zoc
    repeat' (first
     | (apply Rx.nl ?_;clear hK K)|apply Rx.o ?_|apply Rx.on ?_|(apply Rx.cd (fun hb hbp=>?_) (fun hb hbp=>?_)<;>try (cases hb;done))|apply Wp.seq ?_|(apply zd fun K hK=>?_)|apply Wp.block ?_|apply zh ?_|apply Rx.rt ?_|apply zk ?_)
    refine⟨eI,_,(by(try simp only[sB,sO,Nat.reduceBEq,Nat.reduceAdd,Nat.reduceLeDiff,tyF,zQ,yb,agg2, *]);first|done|with_reducible rfl),?_⟩;try simp only[zp]
    refine⟨0,0,lv,rfl,hf2.set (.inl (Nat.le_refl _)) _,.inr ⟨rfl,ts,?_,hhead,fun h=>?_⟩⟩
    ·rcases hrep with h|⟨r,q1,q2,q3,q4,q5⟩
     ·exact .inl h
     ·exact .inr ⟨r,q1,by rw[Hp.get_set,if_neg (by omega)];exact q2,q3,q4,q5⟩
    ·rcases hnm h with ⟨_,q⟩|⟨q,_⟩
     ·have:=h.1;have:=h.2.1;omega
     ·exact q
  ·refine⟨yG false s,[],.nilS,rfl,hsp,eE,eE,eE,eE,(FrB.refl _ _).alloc _,by simp only[zb];omega,eF,.inl ⟨rfl,rfl⟩,by simp,by simp[znM],fun _=>rfl,fun h=>.inl ⟨rfl,zmH h⟩⟩
end Go.Proofs.Ytpbcimfiofmoeaa
namespace Go.Proofs.Ytpbcimfiofmoeaa
set_option maxRecDepth 20000
set_option maxRecDepth 20000
open Go Go.Ab
namespace tyW4j
def tyF:=And.intro @tq3 (And.intro @tq9 (And.intro @zmE (And.intro @tq63 (And.intro @tq90 (And.intro @znG (And.intro @zcc (And.intro @List.flatMap_cons.{0,0} (And.intro @List.flatMap_nil.{0,0} (@Nat.zero_mul)))))))))
end tyW4j
open tyW4j
noncomputable def code76:{ c:SC // slim 44 (Try.f76.body.getD .skip)=c }:=by
 refine⟨?_,?_⟩
 rotate_left
 ·simp only[Try.f76,Option.getD_some,slim,zZ,zS,z6,z7,Nat.blt,Nat.ble]
  rfl
noncomputable def code77:{ c:SC // slim 15 (Try.f77.body.getD .skip)=c }:=by
 refine⟨?_,?_⟩
 rotate_left
 ·simp only[Try.f77,Option.getD_some,slim,zZ,zS,z6,z7,Nat.blt,Nat.ble]
  rfl
theorem zdx {cfg:Cfg} (hx:Lexers cfg) (hw:Plain cfg 76) (s:List UInt8) (hs:s.length < 2 ^ 60) (H:Hp) :
 zr Try.prog cfg 76 [.str s] H fun v H'=>v=.bool (yx s)∧FrB 0 H H':=by
 refine zj (M:=44) (rs:=[.tmp 2]) (hw.call _) hw.ice hw.froz Try.func76 rfl rfl code76.2 rfl ?_;dsimp only[code76,zO,Nat.reduceAdd]
 repeat' (first
  | (apply Rx.nl ?_;clear hK K)|apply Rx.o ?_|apply Rx.on ?_|(apply Rx.gd (fun hg hgp=>?_) (fun hg hgp=>?_)<;>try (cases hg;done))|(apply Rx.cd (fun hb hbp=>?_) (fun hb hbp=>?_)<;>try (cases hb;done))|apply Wp.seq ?_|(apply zd fun K hK=>?_)|apply Wp.block ?_|apply zh ?_|apply Rx.rt ?_)
 refine WpL.call rfl eVk eAk ?_;simp only[List.cons_append,List.nil_append,List.append_nil]
 refine zr.mono ?_ (zu7 hx s hs H)
 rintro v H2 ⟨why,at',lv,rfl,hf2,hcase⟩
 have hx1:Ab.extract (.tup [lv,.agg [.int .i64 why,.int .i64 at']]) 0=some lv:=rfl
 have hx2:Ab.extract (.tup [lv,.agg [.int .i64 why,.int .i64 at']]) 1=some (.agg [.int .i64 why,.int .i64 at']):=rfl
 dsimp only[zA]
 have hf3:FrB 0 H ((H2.alloc (.cells [.int .i64 0,.int .i64 0] 0 true)).set H2.next (.cells [.int .i64 why,.int .i64 at'] 0 true)):=(hf2.alloc _).set (.inl hf2.next) _
 rcases hcase with ⟨h1,h2⟩|⟨rfl,ts,hrep,hhead,hnm⟩
 ·have hnb:nmB s=false:=by
   cases hb:nmB s with
   | false=>rfl
   | true=>exact(h2 ((zhl s).1 hb)).elim
  repeat' (first
   | (apply Rx.nl ?_;clear hK K)|apply Rx.o ?_|apply Rx.on ?_|(apply Rx.gd (fun hg hgp=>?_) (fun hg hgp=>?_)<;>try (cases hg;done))|(apply Rx.cd (fun hb hbp=>?_) (fun hb hbp=>?_)<;>try (cases hb;done))|apply Wp.seq ?_|(apply zd fun K hK=>?_)|apply Wp.block ?_|apply zh ?_|apply Rx.rt ?_)
  all_goals (refine⟨eI,_,eR,?_⟩;try simp only[zp])
  exact⟨by simp only[yx,hnb,Bool.false_and],hf3⟩
 ·rcases hrep with ⟨rfl,rfl⟩|⟨r,rfl,q2,q3,q4,q5⟩
  ·have hnb:nmB s=false:=by
    cases hb:nmB s with
    | false=>rfl
    | true=>have:=hnm ((zhl s).1 hb);simp at this
   repeat' (first
    | (apply Rx.nl ?_;clear hK K)|apply Rx.o ?_|apply Rx.on ?_|(apply Rx.gd (fun hg hgp=>?_) (fun hg hgp=>?_)<;>try (cases hg;done))|(apply Rx.cd (fun hb hbp=>?_) (fun hb hbp=>?_)<;>try (cases hb;done))|apply Wp.seq ?_|(apply zd fun K hK=>?_)|apply Wp.block ?_|apply zh ?_|apply Rx.rt ?_)
   all_goals (refine⟨eI,_,eR,?_⟩;try simp only[zp])
   exact⟨by simp only[yx,hnb,Bool.false_and],hf3⟩
  ·have e1:(r == H2.next)=false:=by simp;omega
   by_cases hl:ts.length=1
   ·obtain⟨k,rfl⟩:=List.length_eq_one_iff.1 hl
    simp only[List.flatMap_cons,List.flatMap_nil,List.append_nil]at q2
    simp only[List.length_cons,List.length_nil,Nat.zero_add]at hx1 hx2 ⊢
    have hkey:zlg s↔(k.kind=1∧k.text=s):=⟨fun h=>by have:=hnm h;simp only[List.cons.injEq,and_true]at this;rw[this];exact⟨rfl,rfl⟩,fun h=>zus hhead h.1 h.2⟩
    have hnb:nmB s=(decide (k.kind=1)&&decide (k.text=s)):=by
     rw[Bool.eq_iff_iff,zhl,hkey];simp
    clear hkey hnm hhead
    have hidx:zq Try.prog 90 (.sl r 0 1 3) (.int .i64 0)=some (.ptr r 0):=by kernel_rfl
    repeat' (first
     | (apply Rx.nl ?_;clear hK K)|apply Ry.o ?_|apply Ry.on ?_|(apply Ry.gd (fun hg hgp=>?_) (fun hg hgp=>?_)<;>try (cases hg;done))|(apply Ry.cd (fun hb hbp=>?_) (fun hb hbp=>?_)<;>try (cases hb;done))|apply Wp.seq ?_|(apply zd fun K hK=>?_)|apply Wp.block ?_|apply zh ?_|apply Rx.rt ?_)
    all_goals (refine⟨eI,_,eR,?_⟩;try simp only[zp])
    all_goals (refine⟨?_,hf3⟩;simp only[yx,hnb,resB];simp_all)
   ·have hnb:nmB s=false:=by
     cases hb:nmB s with
     | false=>rfl
     | true=>have:=hnm ((zhl s).1 hb);rw[this]at hl;simp at hl
    have hl2:decide ((ts.length:Int)=1)=false:=by simp;omega
    repeat' (first
     | (apply Rx.nl ?_;clear hK K)|apply Rx.o ?_|apply Rx.on ?_|(apply Rx.gd (fun hg hgp=>?_) (fun hg hgp=>?_)<;>try (cases hg;done))|(apply Rx.cd (fun hb hbp=>?_) (fun hb hbp=>?_)<;>try (cases hb;done))|apply Wp.seq ?_|(apply zd fun K hK=>?_)|apply Wp.block ?_|apply zh ?_|apply Rx.rt ?_)
    all_goals (refine⟨eI,_,eR,?_⟩;try simp only[zp])
    exact⟨by simp only[yx,hnb,Bool.false_and],hf3⟩
end Go.Proofs.Ytpbcimfiofmoeaa
namespace Go.Proofs.Ytpbcimfiofmoeaa
set_option maxRecDepth 20000
set_option maxRecDepth 20000
open Go Go.Ab
namespace tyW4k
def tyF:=And.intro @tq3 (And.intro @tq9 (And.intro @zcc (And.intro @tq2 (And.intro @zba (@zau)))))
end tyW4k
open tyW4k
noncomputable def zu8:{ c:SC // slim 23 (Try.f113.body.getD .skip)=c }:=by
 refine⟨?_,?_⟩
 rotate_left
 ·simp only[Try.f113,Option.getD_some,slim,zZ,zS,z6,z7,Nat.blt,Nat.ble]
  rfl
noncomputable def zu9:{ c:SC // slim 27 (Try.f135.body.getD .skip)=c }:=by
 refine⟨?_,?_⟩
 rotate_left
 ·simp only[Try.f135,Option.getD_some,slim,zZ,zS,z6,z7,Nat.blt,Nat.ble]
  rfl
noncomputable def zod:{ c:SC // slim 10 (Try.f115.body.getD .skip)=c }:=by
 refine⟨?_,?_⟩
 rotate_left
 ·simp only[Try.f115,Option.getD_some,slim,zZ,zS,z6,z7,Nat.blt,Nat.ble]
  rfl
def opB (k kids:Int):Bool:=if k=20∨k=21 then decide (kids=1)else decide (4≤k)&&decide (k≤18)&&decide (kids=2)
theorem zm6 {cfg:Cfg} (hw:Plain cfg 113) (k kids:Int) (H:Hp) :
 zr Try.prog cfg 113 [.int .i64 k,.int .i64 kids] H fun v H'=>v=.bool (opB k kids)∧H'=H:=by
 refine zj (M:=23) (rs:=[.tmp 4]) (hw.call _) hw.ice hw.froz Try.func113 rfl rfl zu8.2 rfl ?_;dsimp only[zu8,zO,Nat.reduceAdd]
 repeat' (first
  | (apply Rx.nl ?_;clear hK K)|apply Rx.o ?_|(apply Rx.gd (fun hg hgp=>?_) (fun hg hgp=>?_)<;>try (cases hg;done))|(apply Rx.cd (fun hb hbp=>?_) (fun hb hbp=>?_)<;>try (cases hb;done))|apply Wp.seq ?_|(apply zd fun K hK=>?_)|apply zh ?_|apply Rx.rt ?_)
 all_goals
  all_goals (refine⟨eI,_,eR,?_⟩;try simp only[zp])
 all_goals (refine⟨?_,by first|rfl|trivial⟩;simp_all[opB]<;>omega)
theorem zpp {cfg:Cfg} (hw:Plain cfg 135) (x:Ex) (H:Hp) :
 zr Try.prog cfg 135 [.agg x.cells] H fun v H'=>v=.bool (zeroE x)∧FrB 0 H H':=by
 refine zj (M:=27) (rs:=[.tmp 2]) (hw.call _) hw.ice hw.froz Try.func135 rfl rfl zu9.2 rfl ?_;dsimp only[zu9,zO,Nat.reduceAdd]
 repeat' (first
  | (apply Rx.nl ?_;clear hK K)|apply Rx.o ?_|(apply Rx.gd (fun hg hgp=>?_) (fun hg hgp=>?_)<;>try (cases hg;done))|apply Wp.seq ?_|(apply zd fun K hK=>?_)|apply Rx.rt ?_)
 all_goals
  all_goals (refine⟨eI,_,eR,?_⟩;try simp only[zp])
 all_goals (refine⟨?_,(FrB.refl _ _).alloc _⟩;simp_all[zeroE])
def zcB (s:List UInt8) (want:Bool):Bool:=if want then yx s else decide (s=[])
theorem zkm {cfg:Cfg} (hx:Lexers cfg) (hv:Plain cfg 76) (hw:Plain cfg 115) (s:List UInt8) (want:Bool) (hs:s.length < 2 ^ 60) (H:Hp) :
 zr Try.prog cfg 115 [.str s,.bool want] H fun v H'=>v=.bool (zcB s want)∧FrB 0 H H':=by
 cases want
 ·refine zj (M:=10) (rs:=[.tmp 4]) (hw.call _) hw.ice hw.froz Try.func115 rfl rfl zod.2 rfl ?_;dsimp only[zod,zO,Nat.reduceAdd]
  repeat' (first
   | (apply Rx.nl ?_;clear hK K)|apply Rx.o ?_|(apply Rx.cd (fun hb hbp=>?_) (fun hb hbp=>?_)<;>try (cases hb;done))|apply Wp.seq ?_|(apply zd fun K hK=>?_)|apply zh ?_|apply Rx.rt ?_)
  all_goals (refine⟨eI,_,eR,?_⟩;try simp only[zp])
  exact⟨by simp[zcB],FrB.refl _ _⟩
 ·refine zj (M:=10) (rs:=[.tmp 4]) (hw.call _) hw.ice hw.froz Try.func115 rfl rfl zod.2 rfl ?_;dsimp only[zod,zO,Nat.reduceAdd]
  repeat' (first
   | (apply Rx.nl ?_;clear hK K)|apply Rx.o ?_|(apply Rx.cd (fun hb hbp=>?_) (fun hb hbp=>?_)<;>try (cases hb;done))|apply Wp.seq ?_|(apply zd fun K hK=>?_)|apply zh ?_|apply Rx.rt ?_)
  refine WpL.call rfl eVk eAk ?_;simp only[List.cons_append,List.nil_append,List.append_nil]
  refine zr.mono ?_ (zdx hx hv s hs H)
  rintro v H2 ⟨rfl,hf2⟩
  dsimp only[zA]
  repeat' (first
   | (apply Rx.nl ?_;clear hK K)|apply Rx.o ?_|(apply Rx.cd (fun hb hbp=>?_) (fun hb hbp=>?_)<;>try (cases hb;done))|apply Wp.seq ?_|(apply zd fun K hK=>?_)|apply zh ?_|apply Rx.rt ?_)
  all_goals (refine⟨eI,_,eR,?_⟩;try simp only[zp])
  exact⟨by simp[zcB],hf2⟩
theorem zi7 {cfg:Cfg} (hx:Lexers cfg) (hv:Plain cfg 76) (hw:Plain cfg 77) (l:List (List UInt8)) (hz:jd l < 2 ^ 60) (H:Hp) :
 zr Try.prog cfg 77 [je l] H fun v H'=>v=.bool (l.all yx)∧FrB 0 H H':=by
 have hl:l.length < 2 ^ 60:=by have:=zar l;omega
 refine zj (M:=15) (rs:=[.tmp 2]) (hw.call _) hw.ice hw.froz Try.func77 rfl rfl code77.2 rfl ?_;dsimp only[code77,zO,Nat.reduceAdd]
 repeat' (first
  | (apply Rx.nl ?_;clear hK K)|apply Rx.o ?_|(apply Rx.cd (fun hb hbp=>?_) (fun hb hbp=>?_)<;>try (cases hb;done))|apply Wp.seq ?_|(apply zd fun K hK=>?_)|apply Wp.block ?_|apply zh ?_|apply Rx.rt ?_|apply zk ?_)
 refine zaq (fun i E H2=>l.all yx=(l.drop i).all yx∧E.at 5=.lst (l.map fun s=>[.str s])∧E.at 6=.int .i64 l.length∧E.at 7=.int .i64 i∧FrB 0 H H2) l.length ?_ ?_
 ·rintro i E H2 hi2 ⟨hc,h5,h6,h7,hf2⟩
  repeat' (first
   | (apply Rx.nl ?_;clear hK K)|apply Rx.o ?_|(apply Rx.cd (fun hb hbp=>?_) (fun hb hbp=>?_)<;>try (cases hb;done))|apply Wp.seq ?_|(apply zd fun K hK=>?_)|apply Wp.block ?_|apply zh ?_|apply Rx.rt ?_|apply zk ?_)
  ·have hlt:i < l.length:=by simpa using hb
   have hgx:l[i]?=some l[i]:=List.getElem?_eq_getElem hlt
   have hsm:=zic (List.getElem_mem hlt)
   have hdr:(l.drop i).all yx=(yx l[i]&&(l.drop (i+1)).all yx):=by rw[List.drop_eq_getElem_cons hlt,List.all_cons]
   repeat' (first
    | (apply Rx.nl ?_;clear hK K)|apply Rx.o ?_|(apply Rx.cd (fun hb hbp=>?_) (fun hb hbp=>?_)<;>try (cases hb;done))|apply Wp.seq ?_|(apply zd fun K hK=>?_)|apply Wp.block ?_|apply zh ?_|apply Rx.rt ?_|apply zk ?_)
   refine WpL.call rfl eVk eAk ?_;simp only[List.cons_append,List.nil_append,List.append_nil]
   refine zr.mono ?_ (zdx hx hv l[i] (by omega) H2)
   rintro v H3 ⟨rfl,hf3⟩
   dsimp only[zA]
   repeat' (first
    | (apply Rx.nl ?_;clear hK K)|apply Rx.o ?_|(apply Rx.cd (fun hb hbp=>?_) (fun hb hbp=>?_)<;>try (cases hb;done))|apply Wp.seq ?_|(apply zd fun K hK=>?_)|apply Wp.block ?_|apply zh ?_|apply Rx.rt ?_|apply zk ?_)
   ·all_goals (refine⟨eI,_,eR,?_⟩;try simp only[zp])
    exact⟨by rw[hc,hdr];simp_all,hf2.trans hf3⟩
   ·refine⟨hlt,by rw[hc,hdr];simp_all,eE,eE,?_,hf2.trans hf3⟩
    simp only[at_set,Nat.reduceBEq,cond_true,z9 (show i < 2 ^ 62 by omega)]
  ·all_goals (refine⟨eI,_,eR,?_⟩;try simp only[zp])
   have hie:i=l.length:=by simp at hb;omega
   exact⟨by rw[hc,hie];simp,hf2⟩
 ·exact⟨by simp,eE,eE,eE,FrB.refl _ _⟩
end Go.Proofs.Ytpbcimfiofmoeaa
namespace Go.Proofs.Ytpbcimfiofmoeaa
set_option maxRecDepth 20000
set_option maxRecDepth 20000
open Go Go.Ab
namespace tyP4a
def tyF:=And.intro @tq2 (And.intro @tq3 (And.intro @tq9 (And.intro @zba (And.intro @zau (And.intro @tq4 (@tq162))))))
end tyP4a
open tyP4a
noncomputable def zva:{ c:SC // slim 27 (Try.f114.body.getD .skip)=c }:=by
 refine⟨?_,?_⟩
 rotate_left
 ·simp only[Try.f114,Option.getD_some,slim,zZ,zS,z6,z7,Nat.blt,Nat.ble]
  rfl
noncomputable def code79:{ c:SC // slim 87 (Try.f79.body.getD .skip)=c }:=by
 refine⟨?_,?_⟩
 rotate_left
 ·simp only[Try.f79,Option.getD_some,slim,zZ,zS,z6,z7,Nat.blt,Nat.ble]
  rfl
noncomputable def zoe:{ c:SC // slim 10 (Try.f116.body.getD .skip)=c }:=by
 refine⟨?_,?_⟩
 rotate_left
 ·simp only[Try.f116,Option.getD_some,slim,zZ,zS,z6,z7,Nat.blt,Nat.ble]
  rfl
theorem zvb {l:List En} (h:∀ f,f∈[151,146,144,133,147,145,134,112]→(∀ args,yQ l f args=none)∧zev l f=false):Lexers (zK pls l) where
 let_:=yJ (h _ (by simp)).1 (h _ (by simp)).2
 dig:=yJ (h _ (by simp)).1 (h _ (by simp)).2
 word:=yJ (h _ (by simp)).1 (h _ (by simp)).2
 space:=yJ (h _ (by simp)).1 (h _ (by simp)).2
 num:=yJ (h _ (by simp)).1 (h _ (by simp)).2
 sym:=yJ (h _ (by simp)).1 (h _ (by simp)).2
 first:=yJ (h _ (by simp)).1 (h _ (by simp)).2
 scan:=yJ (h _ (by simp)).1 (h _ (by simp)).2
 plan _:=by first|rfl|kernel_rfl
 keep:=rfl
theorem lex0:Lexers (zK pls []):=zvb fun f _=>⟨fun _=>rfl,rfl⟩
theorem zm7 (ρ:Nat→Int) (s:List UInt8) (hs:s.length < 2 ^ 60):Con Try.prog ρ 76 [.str s] (.bool (yx s)):=
 jX fit (pls:=pls) (l:=[]) trivial (.cons (.str _) .nil) (.bool _) (zr.mono (fun v H h=>h.1) (zdx lex0 (zab _) s hs H0))
theorem zvc (ρ:Nat→Int) (x:Int×Nat):Con Try.prog ρ 113 [.int .i64 x.1,.int .i64 x.2] (.bool (opB x.1 x.2)):=
 jX fit (pls:=pls) (l:=[]) trivial (.cons (.int _ _) (.cons (.int _ _) .nil)) (.bool _) (zr.mono (fun v H h=>h.1) (zm6 (zab _) x.1 x.2 H0))
theorem zpq (ρ:Nat→Int) (x:Ex):Con Try.prog ρ 135 [.agg x.cells] (.bool (zeroE x)):=
 jX fit (pls:=pls) (l:=[]) trivial (.cons (.agg x.pure) .nil) (.bool _) (zr.mono (fun v H h=>h.1) (zpp (zab _) x H0))
theorem zm8 (ρ:Nat→Int) (l:List (List UInt8)) (hl:jd l < 2 ^ 60):Con Try.prog ρ 77 [je l] (.bool (l.all yx)):=
 jX fit (pls:=pls) (l:=[]) trivial (.cons (zcW _) .nil) (.bool _) (zr.mono (fun v H h=>h.1) (zi7 lex0 (zab _) (zab _) l hl H0))
theorem zm9 (ρ:Nat→Int) (s:List UInt8) (w:Bool) (hs:s.length < 2 ^ 60):Con Try.prog ρ 115 [.str s,.bool w] (.bool (zcB s w)):=
 jX fit (pls:=pls) (l:=[]) trivial (.cons (.str _) (.cons (.bool _) .nil)) (.bool _) (zr.mono (fun v H h=>h.1) (zkm lex0 (zab _) (zab _) s w hs H0))
def zna (k:Int):List Bool:=
 if k=1 then [true,false,false,false,true,false,false,false]
 else if k=2 then [true,false,false,true,true,false,false,false]
 else if k=3 then [false,false,false,false,true,false,true,true]
 else if k=4 then [false,false,false,false,true,false,true,false]
 else if k=5 then [false,false,false,false,true,false,false,false]
 else if k=6 then [true,true,false,false,false,true,false,false]
 else if k=7 then [false,false,true,false,false,false,false,false]
 else [false,false,false,false,false,false,false,false]
def zbq (k:Int):Bool:=decide (1≤k)&&decide (k≤7)
def fldA (k:Int):AV:=.tup [.agg ((zna k).map .bool),.bool (zbq k)]
theorem agg8 (a b c d e f g h:AV):yL 8 [a,b,c,d,e,f,g,h]=some (.agg [a,b,c,d,e,f,g,h]):=rfl
theorem znb (ρ:Nat→Int) (k:Int):Con Try.prog ρ 114 [.int .i64 k] (fldA k):=jX fit (pls:=pls) (l:=[]) trivial (.cons (.int _ _) .nil) (.tup (.cons (.agg fun v hv=>by
 obtain⟨b,_,rfl⟩:=List.mem_map.1 hv
 exact .bool b) (.cons (.bool _) .nil))) (by
 have hw:=zab 114
 have b1:yj Try.prog 162 [(0,.bool true),(4,.bool true)]=some (.agg [.bool true,.bool false,.bool false,.bool false,.bool true,.bool false,.bool false,.bool false]):=by kernel_rfl
 have b2:yj Try.prog 162 [(0,.bool true),(3,.bool true),(4,.bool true)]=some (.agg [.bool true,.bool false,.bool false,.bool true,.bool true,.bool false,.bool false,.bool false]):=by kernel_rfl
 have b3:yj Try.prog 162 [(4,.bool true),(6,.bool true),(7,.bool true)]=some (.agg [.bool false,.bool false,.bool false,.bool false,.bool true,.bool false,.bool true,.bool true]):=by kernel_rfl
 have b4:yj Try.prog 162 [(4,.bool true),(6,.bool true)]=some (.agg [.bool false,.bool false,.bool false,.bool false,.bool true,.bool false,.bool true,.bool false]):=by kernel_rfl
 have b5:yj Try.prog 162 [(4,.bool true)]=some (.agg [.bool false,.bool false,.bool false,.bool false,.bool true,.bool false,.bool false,.bool false]):=by kernel_rfl
 have b6:yj Try.prog 162 [(0,.bool true),(1,.bool true),(5,.bool true)]=some (.agg [.bool true,.bool true,.bool false,.bool false,.bool false,.bool true,.bool false,.bool false]):=by kernel_rfl
 have b7:yj Try.prog 162 [(2,.bool true)]=some (.agg [.bool false,.bool false,.bool true,.bool false,.bool false,.bool false,.bool false,.bool false]):=by kernel_rfl
 have b0:yj Try.prog 162 []=some (.agg [.bool false,.bool false,.bool false,.bool false,.bool false,.bool false,.bool false,.bool false]):=by kernel_rfl
 refine zj (M:=27) (rs:=[.cell 2 162,.tmp 3]) (hw.call _) hw.ice hw.froz Try.func114 rfl rfl zva.2 rfl ?_;dsimp only[zva,zO,Nat.reduceAdd]
 repeat' (first
  | (apply Rx.nl ?_;clear hK K)|apply Rx.o ?_|apply Rx.on ?_|(apply Rx.cd (fun hb hbp=>?_) (fun hb hbp=>?_)<;>try (cases hb;done))|apply Wp.seq ?_|(apply zd fun K hK=>?_)|apply Wp.block ?_|apply zh ?_|apply Rx.rt ?_)
 all_goals
  refine⟨eI,_,(by(try simp only[sB,sO,Nat.reduceBEq,Nat.reduceAdd,Nat.reduceLeDiff,tyF,zQ,yb,agg8, *]);first|done|with_reducible rfl),?_⟩;try simp only[zp]
 all_goals
  first
  | (simp_all[fldA,zna,zbq];done)
  | (have h0:zbq k=false:=by
      simp only[zbq,Bool.and_eq_false_iff,decide_eq_false_iff_not];omega
     simp_all[fldA,zna];done))
theorem opB_eq (k:Int) (n:Nat):opB k n=((decide ((n:Int)=2)&&zdm k)||(decide ((n:Int)=1)&&(decide (k=20)||decide (k=21)))):=by
 unfold opB zdm
 by_cases h:k=20∨k=21
 ·rw[if_pos h]
  rcases h with rfl|rfl<;>simp
 ·rw[if_neg h]
  have h1:¬ k=20:=fun e=>h (.inl e)
  have h2:¬ k=21:=fun e=>h (.inr e)
  simp only[h1,h2,decide_false,Bool.or_false,Bool.and_false]
  cases decide (4≤k)<;>cases decide (k≤18)<;>cases decide ((n:Int)=2)<;>rfl
noncomputable def enPN:En:=⟨76,false,spP (fun s=>s.length < 2 ^ 60) bsE fun s=>.bool (yx s)⟩
theorem zof (ρ:Nat→Int):zbI Try.prog ρ enPN:=jL fun x hx=>zm7 ρ x hx
def opE (x:Int×Nat):List AV:=[.int .i64 x.1,.int .i64 x.2]
theorem zvd (x y:Int×Nat) (h:opE x=opE y):x=y:=by
 simp only[opE,List.cons.injEq,AV.int.injEq,and_true,true_and]at h
 exact Prod.ext h.1 (by omega)
noncomputable def enPO:En:=⟨113,false,spP (fun _=>True) opE fun x=>.bool (opB x.1 x.2)⟩
theorem zog (ρ:Nat→Int):zbI Try.prog ρ enPO:=jL fun x _=>zvc ρ x
noncomputable def enPZ:En:=⟨135,false,spP (fun _=>True) exE fun x=>.bool (zeroE x)⟩
theorem zve (ρ:Nat→Int):zbI Try.prog ρ enPZ:=jL fun x _=>zpq ρ x
theorem zre {l:List En} (hv:∀ ar,yQ l 76 ar=enPN.sp ar) (ho:∀ ar,yQ l 113 ar=enPO.sp ar) (hp:(∀ ar,yQ l 79 ar=none)∧zev l 79=false) {base:Nat}{I:Hp→Prop} (hI:zgW base I) :
 zgq (zK pls l) base I 79 [] fun x _=>wfX x:=by
 intro x d H hz hbase hi
 have hw:Plain (zK pls l) 79:=yJ hp.1 hp.2
 have kv:∀ s:List UInt8,s.length < 2 ^ 60→∀ H,zr Try.prog (zK pls l) 76 [.str s] H fun v H'=>v=.bool (yx s)∧H'=H:=fun s h1 H=>yr (enc:=bsE) (out:=fun x=>.bool (yx x)) znN (x:=s) (hv _) h1
 have ko:∀ (k:Int) (n:Nat),∀ H,zr Try.prog (zK pls l) 113 [.int .i64 k,.int .i64 n] H fun v H'=>v=.bool (opB k n)∧H'=H:=fun k n H=>yr (enc:=opE) (out:=fun x=>.bool (opB x.1 x.2)) zvd (x:=(k,n)) (ho _) trivial
 have hsz:=x.sz_eq
 refine zj (M:=87) (rs:=[.tmp 4]) (hw.call _) hw.ice hw.froz Try.func79 rfl rfl code79.2 rfl ?_;dsimp only[code79,zO,Nat.reduceAdd]
 repeat' (first
  | (apply Rx.nl ?_;clear hK K)|apply Rx.o ?_|(apply Rx.call ?_;first|refine zaF (kv _ (by omega) _) ?_|refine zaF (ko _ _ _) ?_)|(apply Rx.gd (fun hg hgp=>?_) (fun hg hgp=>?_)<;>try (cases hg;done))|(apply Rx.cd (fun hb hbp=>?_) (fun hb hbp=>?_)<;>try (cases hb;done))|apply Wp.seq ?_|(apply zd fun K hK=>?_)|apply Wp.block ?_|apply zh ?_|apply Rx.rt ?_)
 all_goals
  all_goals (refine⟨eI,_,eR,?_⟩;try simp only[zp])
  refine⟨?_,(FrB.refl _ _).alloc _,hI _ _ hi ((Low.refl _ _).alloc hbase _)⟩
  rw[wfX]
  (try rw[opB_eq])
  (try simp only[Bool.not_eq_true',Bool.not_eq_false']at *);simp only[*,decide_true,decide_false,Bool.false_or,Bool.or_false,Bool.true_or,Bool.or_true,Bool.false_and,Bool.and_false,Bool.true_and,Bool.and_true,Bool.not_true,Bool.not_false,if_true,if_false,Int.reduceEq]
end Go.Proofs.Ytpbcimfiofmoeaa
