/- Parts: ChS. -/
import Derived.Test.YtpbcimfiofmoeaaGreatRCT
set_option linter.unusedSimpArgs false
set_option linter.unusedVariables false
set_option linter.unusedSectionVars false
set_option linter.defProp false
set_option maxHeartbeats 32000000
namespace Go.Proofs.YtpbcimfiofmoeaaGreat
set_option maxRecDepth 20000
open Go Go.Ab
def Gs(n:Nd):Bool:=decide (n.op=27)||decide (n.op=28)||decide (n.op=29)
inductive Rch (l:List Nd):Int->Int->Prop
 |refl (k:Int):Rch l k k
 |step {k m b:Int}{n:Nd}:0<=k->l[k.toNat]?=some n->Gs n=true->n.kids[0]?=some m->Rch l m b->Rch l k b
theorem OG{l l':List Nd}(h:l<+:l'){i:Nat}{n:Nd}(k:l[i]?=some n):l'[i]?=some n:=by
 obtain⟨m,rfl⟩:=h;rw[kG (eS.1 k).1];exact k
theorem Rch.mono{l l':List Nd}(hl:l<+:l'){a b:Int}(h:Rch l a b):Rch l' a b:=by
 induction h with
 |refl k=>exact .refl k
 |step h0 h1 h2 h3 _ ih=>exact .step h0 (OG hl h1) h2 h3 ih
theorem Rch.trans{l:List Nd}{a b c:Int}(h:Rch l a b)(k:Rch l b c):Rch l a c:=by
 induction h with
 |refl=>exact k
 |step h0 h1 h2 h3 _ ih=>exact .step h0 h1 h2 h3 (ih k)
structure Pth (s r:Bd):Prop where
 le:s.l<+:r.l
 st:Rch r.l r.state s.state
 nw:∀(i:Nat) (n:Nd),s.l.length<=i->r.l[i]?=some n->Gs n=true->Rch r.l r.state i
theorem Pth.refl(s:Bd):Pth s s:=⟨ol _,.refl _,fun i n h k=>by rw[iY h]at k;cases k⟩
theorem zxJ{l l':List Nd}(h:l<+:l'){i:Nat}{n:Nd}(hi:i<l.length)(k:l'[i]?=some n):l[i]?=some n:=by
 obtain⟨m,rfl⟩:=h;rw[kG hi]at k;exact k
theorem Pth.trans{a b c:Bd}(h:Pth a b)(k:Pth b c):Pth a c:=⟨h.le.trans k.le,k.st.trans (h.st.mono k.le),fun i n hi hn hs=>by
 by_cases c:b.l.length<=i
 .exact k.nw i n c hn hs
 .exact k.st.trans ((h.nw i n hi (zxJ k.le ac hn) hs).mono k.le)⟩
theorem Pth.setV{s r:Bd}(h:Pth s r)(v:List Int):Pth s {r with vars:=v}:=⟨h.le,h.st,h.nw⟩
theorem zxK{l:List Nd}{n m:Nd}{i:Nat}(hi:l.length<=i)(hm:(iB l n)[i]?=some m):m=n/\fP l n=i:=by
 unfold iB at hm;split at hm
 .rw[iY hi]at hm;cases hm
 .rename_i c;have h2:=Bz l n;rw[mB hi]at hm;cases e:i-l.length with
  |zero=>
   rw[e]at hm;simp only[nP,aQ]at hm;exact⟨hm.symm,ac⟩
  |succ j=>rw[e]at hm;simp at hm
theorem Pth.put(n:Nd)(s:Bd)(hn:Gs n=false):Pth s (zdS n s).2:=⟨ux _ _,.refl _,fun i m hi hm hs=>by
 obtain⟨rfl,_⟩:=zxK hi hm;rw[hn]at hs;cases hs⟩
def OH:Bd:=⟨[⟨26,0,[]⟩],[],0,0⟩
theorem OI:∀(m k:Nat) (s:Bd),Pth s (iC m k s)
 |0,k,s=>Pth.refl s
 |m+1,k,s=>((Pth.put ⟨2,k,[]⟩ s rfl).setV _).trans (OI m (k+1) _)
theorem OJ:∀(m:Nat) (s:Bd),Pth s (jW m s)
 |0,s=>Pth.refl s
 |m+1,s=>((Pth.put ⟨1,0,[]⟩ s rfl).setV _).trans (OJ m _)
theorem zoI(f:Fu):Pth OH (kA f):=(OI f.params.length 0 OH).trans (OJ f.locals.length _)
end Go.Proofs.YtpbcimfiofmoeaaGreat
