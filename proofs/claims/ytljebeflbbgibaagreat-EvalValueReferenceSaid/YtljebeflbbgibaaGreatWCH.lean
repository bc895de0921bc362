/- Parts: R3a, EnX, EvR, Std, W6a, EvA, VeW, Strs, Ints, SpecR, R3b, I1, I2. -/
import Derived.Test.YtljebeflbbgibaaGreatWCG
set_option linter.unusedSimpArgs false
set_option linter.unusedVariables false
set_option linter.unusedSectionVars false
set_option linter.defProp false
set_option maxHeartbeats 32000000
namespace Go.Ab
set_option maxRecDepth 20000
open Go
theorem uW{P:Prop}(h:P:=by rw[A r ⟨_,rfl⟩];exact g):P:=h
theorem iJ{P:Prop}(h:P:=by rw[M];omega):P:=h
theorem ga{P:Prop}(h:P:=by rw[P8,if_pos rfl];rfl):P:=h
theorem ja{P:Prop}(h:P:=by simp only[SS];omega):P:=h
theorem gQ{P:Prop}(h:P:=by simpa using I.symm):P:=h
theorem nR{P:Prop}(h:P:=by simp only[P7,Nat.reduceBEq, *];exact Su (n:=s.length) aa aa):P:=h
theorem jP{P:Prop}(h:P:=by rw[Hp.get_set,if_neg aa]):P:=h
theorem y0{P:Prop}(h:P:=by rw[Int.tmod_eq_emod_of_nonneg aa];omega):P:=h
def y1:=@List.drop_succ_cons
def jb:=@List.drop_eq_getElem_cons
def uX:=@Bool.and_eq_false_iff
def kB:=@Bool.or_false
def iK:=@Prod.ext
def mB:=@List.length_pos_iff
def pS:=@List.length_replicate
def nS:=@Bool.and_assoc
def uY:=@List.set_cons_zero
def y2:=@List.eq_of_mem_replicate
def uZ:=@List.eq_nil_of_length_eq_zero
def mC:=@decide_eq_false
def pT:=@decide_eq_decide
def mD:=@decide_eq_true
def u0:=@Bool.and_false
def lp:=@List.drop_length
def lq:=@List.map_set
def ig:=@Bool.not_eq_false'
def gR:=And.intro @gN @u0
def ii:=And.intro @iW @fE
end Go.Ab
namespace Go.Proofs.YtljebeflbbgibaaGreat
set_option maxRecDepth 20000
open Go Go.Ab
section
def tyR3a.tyF:=ac @cZ (ac @jK (ac @yE (ac @uS (ac @yw (ac @yA (ac @pQ (ac @pR (ac @nN (ac @Jk (ac @dr (@nM)))))))))))
open tyR3a
theorem RO(f:FuncId):Plain (PU pls []) f:=⟨fun _=>rfl,rfl,rfl⟩
theorem Ra{l:List En}{f:FuncId}(i:∀Y,QT l f Y=none)(g:iI l f=false):Plain (PU pls l) f:=⟨i,g,rfl⟩
structure PlainA (cfg:Cfg) (f:FuncId) (args:List AV):Prop where
 call:cfg.call f args=none
 ice:cfg.ice f=false
 froz:cfg.froz f=false
theorem LZ{O:Type}{sz:O->Nat}{ok:O->Prop}{enc:O->List AV}{out:O->AV}(F:∀x y,enc x=enc y->x=y){f:FuncId}{l:List En}(x:O):
 PlainA (PU pls (⟨f,false,bG (fun y=>ok y/\sz y<sz x) enc out⟩::l)) f (enc x):=by
 have g:Nat.beq f f=true:=Nat.beq_refl f;refine⟨?_,?_,rfl⟩
 .show QT _ f (enc x)=none;simp only[QT,g];exact yi fun y A e=>by rw[F _ _ e]at A;exact Nat.lt_irrefl _ A.2
 .show iI _ f=false;simp only[iI,g]
noncomputable def y3:{c:SC // aB 21 (Tryz.f95.body.getD .skip)=c}:=by
 refine⟨?_,?_⟩;rotate_left
 .simp only[Tryz.f95,bh,aB,Qh,Qe,Qm,Qn,Nat.blt,Nat.ble];rfl
noncomputable def y4:{c:SC // aB 9 (Tryz.f96.body.getD .skip)=c}:=by
 refine⟨?_,?_⟩;rotate_left
 .simp only[Tryz.f96,bh,aB,Qh,Qe,Qm,Qn,Nat.blt,Nat.ble];rfl
noncomputable def y5:{c:SC // aB 34 (Tryz.f58.body.getD .skip)=c}:=by
 refine⟨?_,?_⟩;rotate_left
 .simp only[Tryz.f58,bh,aB,Qh,Qe,Qm,Qn,Nat.blt,Nat.ble];rfl
noncomputable def y6:{c:SC // aB 18 (Tryz.f59.body.getD .skip)=c}:=by
 refine⟨?_,?_⟩;rotate_left
 .simp only[Tryz.f59,bh,aB,Qh,Qe,Qm,Qn,Nat.blt,Nat.ble];rfl
noncomputable def y7:{c:SC // aB 10 (Tryz.f29.body.getD .skip)=c}:=by
 refine⟨?_,?_⟩;rotate_left
 .simp only[Tryz.f29,bh,aB,Qh,Qe,Qm,Qn,Nat.blt,Nat.ble];rfl
noncomputable def y8:{c:SC // aB 9 (Tryz.f189.body.getD .skip)=c}:=by
 refine⟨?_,?_⟩;rotate_left
 .simp only[Tryz.f189,bh,aB,Qh,Qe,Qm,Qn,Nat.blt,Nat.ble];rfl
noncomputable def y9:{c:SC // aB 27 (Tryz.f202.body.getD .skip)=c}:=by
 refine⟨?_,?_⟩;rotate_left
 .simp only[Tryz.f202,bh,aB,Qh,Qe,Qm,Qn,Nat.blt,Nat.ble];rfl
theorem L0(ρ:Nat->Int)(n:Int):aX Tryz.prog ρ 95 [.int .u8 n] (.bool (lk n)):=Q7 fit (pls:=pls) (l:=[]) trivial (.cons (.int _ _) .nil) (.bool _) (by
 have L:=RO 95;refine P4 (M:=21) (rs:=[.tmp 2]) (L.call _) L.ice L.froz Tryz.func95 rfl rfl y3.2 rfl ?_;dsimp only[y3,PZ,Nat.reduceAdd];repeat' (first
  |(apply PO ?_;clear hK K)|apply Rx.o ?_|apply mw ?_|(apply cK (fun A j=>?_) (fun A j=>?_)<;>try(cases A;done))|apply aj ?_|(apply PP fun K hK=>?_)|apply aq ?_)
 all_goals (refine⟨eI,_,P0,?_⟩;try simp only[PT])
 all_goals (simp_all[lk]<;>omega))
theorem L1(ρ:Nat->Int)(n:Int):aX Tryz.prog ρ 96 [.int .u8 n] (.bool (kA n)):=Q7 fit (pls:=pls) (l:=[]) trivial (.cons (.int _ _) .nil) (.bool _) (by
 have L:=RO 96;refine P4 (M:=9) (rs:=[.tmp 2]) (L.call _) L.ice L.froz Tryz.func96 rfl rfl y4.2 rfl ?_;dsimp only[y4,PZ,Nat.reduceAdd];repeat' (first
  |(apply PO ?_;clear hK K)|apply Rx.o ?_|(apply cK (fun A j=>?_) (fun A j=>?_)<;>try(cases A;done))|apply aj ?_|(apply PP fun K hK=>?_)|apply aq ?_)
 all_goals (refine⟨eI,_,P0,?_⟩;try simp only[PT])
 all_goals (simp_all[kA]<;>omega))
def mE(n:Int):List AV:=[.int .u8 n]
theorem za(x y:Int)(h:mE x=mE y):x=y:=by simpa [mE]using h
noncomputable def pU:En:=⟨95,false,bG (fun _=>True) mE fun n=>.bool (lk n)⟩
noncomputable def pV:En:=⟨96,false,bG (fun _=>True) mE fun n=>.bool (kA n)⟩
theorem L2(ρ:Nat->Int):QM Tryz.prog ρ pU:=QP fun n _=>L0 ρ n
theorem L3(ρ:Nat->Int):QM Tryz.prog ρ pV:=QP fun n _=>L1 ρ n
theorem L4(ρ:Nat->Int)(s:List UInt8)(hs:s.length<2^60):aX Tryz.prog ρ 58 [.str s] (.bool (lm s)):=Q7 fit (pls:=pls) (l:=[pU,pV]) ⟨L2 ρ,L3 ρ,trivial⟩ (.cons (.str _) .nil) (.bool _) (by
 have m:Plain (PU pls [pU,pV]) 58:=Ra (fun _=>rfl) rfl;have kl:∀(n:Int) (H:Hp),P2 Tryz.prog (PU pls [pU,pV]) 95 [.int .u8 n] H fun v H'=>v=.bool (lk n)/\H'=H:=fun n H=>Q0 (enc:=mE) (out:=fun n=>.bool (lk n)) za (x:=n) rfl trivial;have kd:∀(n:Int) (H:Hp),P2 Tryz.prog (PU pls [pU,pV]) 96 [.int .u8 n] H fun v H'=>v=.bool (kA n)/\H'=H:=fun n H=>Q0 (enc:=mE) (out:=fun n=>.bool (kA n)) za (x:=n) rfl trivial;refine P4 (M:=34) (rs:=[.tmp 2]) (m.call _) m.ice m.froz Tryz.func58 rfl rfl y5.2 rfl ?_;dsimp only[y5,PZ,Nat.reduceAdd];repeat' (first
  |(apply PO ?_;clear hK K)|apply Rx.o ?_|apply aj ?_|(apply PP fun K hK=>?_)|apply ay ?_|fail)
 refine Rk [0] [] 3 s.length (fun i E H=>jO s=i+jO (s.drop i)/\(0<i->∀b,s[0]?=some b->kA b.toNat=false)) eE aA ?_;rintro i E H2 hi I F C hsI ⟨J,O⟩;(try simp only[QK,Qs,a7,P7,Qy,Nat.reduceBEq, *]at I);(try simp only[Qs, *]at F);(try simp only[Re,]at C);repeat' (first
  |(apply PO ?_;clear hK K)|apply Rx.o ?_|(apply cK (fun A j=>?_) (fun A j=>?_)<;>try(cases A;done))|(apply a6 (fun U Z=>?_) (fun U Z=>?_)<;>try(cases U;done))|apply aj ?_|(apply PP fun K hK=>?_)|apply ay ?_|apply PR ?_|apply aq ?_|apply PX ?_)
 .have L:i<s.length:=by simpa using U
  have g:s[i]?=some s[i]:=a1 L;have Y:jO (s.drop i)=if ll s[i]then jO (s.drop (i+1))+1 else 0:=by rw[jb L,jO]
  repeat' (first
   |(apply PO ?_;clear hK K)|apply Rx.o ?_|(apply eR ?_;first|refine Rx.k (kl _ _) ?_|refine Rx.k (kd _ _) ?_)|apply mw ?_|(apply cK (fun A j=>?_) (fun A j=>?_)<;>try(cases A;done))|(apply a6 (fun U Z=>?_) (fun U Z=>?_)<;>try(cases U;done))|apply aj ?_|(apply PP fun K hK=>?_)|apply PR ?_|apply aq ?_|fail)
  .all_goals (refine⟨eI,_,P0,?_⟩;try simp only[PT])
   have V:i=0:=aa;subst V;unfold lm;cases s<;>simp_all
  .refine⟨aa,P1,P1,QN,nR,?_⟩;have o:ll s[i]=true:=by simp_all[ll]
   refine⟨by rw[J,Y,o];simp;omega,fun _ b z=>O aa b z⟩
  .all_goals (refine⟨eI,_,P0,?_⟩;try simp only[PT])
   have o:ll s[i]=false:=by simp_all[ll]
   rw[o]at Y;simp at Y;unfold lm;simp[show ¬jO s=s.length by omega]
  .refine⟨aa,P1,P1,QN,nR,?_⟩;have o:ll s[i]=true:=by simp_all[ll]
   refine⟨by rw[J,Y,o];simp;omega,fun _ b z=>?_⟩;by_cases h0:0<i
   .exact O h0 b z
   .have V:i=0:=by omega
    subst V;rw[g]at z;have:s[0]=b:=by simpa using z
    subst this;have hle:lk s[0].toNat=true:=by simp_all
    simp only[lk,kA]at *;simp only[lc,dn,i4]at hle;simp only[uX,nQ];omega
 all_goals
  have hie:i=s.length:=aa;all_goals (refine⟨eI,_,P0,?_⟩;try simp only[PT])
  rw[hie]at J;simp[jO]at J;unfold lm;cases s<;>simp_all<;>omega)
def ls(l:List (List UInt8))(s:List UInt8):Bool:=l.any fun x=>decide (x=s)
def nT(op:Int):Bool:=decide (4<=op)&&decide (op<=18)
theorem L5(ρ:Nat->Int)(op:Int):aX Tryz.prog ρ 189 [.int .i64 op] (.bool (nT op)):=Q7 fit (pls:=pls) (l:=[]) trivial (.cons (.int _ _) .nil) (.bool _) (by
 have L:=RO 189;refine P4 (M:=9) (rs:=[.tmp 2]) (L.call _) L.ice L.froz Tryz.func189 rfl rfl y8.2 rfl ?_;dsimp only[y8,PZ,Nat.reduceAdd];repeat' (first
  |(apply PO ?_;clear hK K)|apply Rx.o ?_|(apply cK (fun A j=>?_) (fun A j=>?_)<;>try(cases A;done))|apply aj ?_|(apply PP fun K hK=>?_)|apply aq ?_)
 all_goals (refine⟨eI,_,P0,?_⟩;try simp only[PT])
 all_goals (simp_all[nT]<;>omega))
def zeroE(x:Ex):Bool:=decide (x.kind=0)&&decide (x.n=0)&&decide (x.name=[])&&decide (x.op=0)&&decide (x.kids.length=0)
theorem L6(ρ:Nat->Int)(x:Ex):aX Tryz.prog ρ 202 [.agg x.cells] (.bool (zeroE x)):=Q7 fit (pls:=pls) (l:=[]) trivial (.cons (.agg x.pure) .nil) (.bool _) (by
 have L:=RO 202;refine P4 (M:=27) (rs:=[.tmp 2]) (L.call _) L.ice L.froz Tryz.func202 rfl rfl y9.2 rfl ?_;dsimp only[y9,PZ,Nat.reduceAdd];repeat' (first
  |(apply PO ?_;clear hK K)|apply Rx.o ?_|(apply cK (fun A j=>?_) (fun A j=>?_)<;>try(cases A;done))|apply aj ?_|(apply PP fun K hK=>?_)|apply aq ?_)
 all_goals
  all_goals (refine⟨eI,_,P0,?_⟩;try simp only[PT])
 all_goals simp_all[zeroE])
def u1:List Fu->List UInt8->Int->Int
 |[],_,_=>-1
 |f::l,s,i=>if f.name=s then i else u1 l s (i+1)
def gS:List (List UInt8):=[[97,114,114,97,121],[102,117,110,99],[118,97,114],[114,101,116,117,114,110],[105,102],[101,108,115,101],[119,104,105,108,101],[111,117,116],[116,114,97,112]]
theorem zb(s:List UInt8):ls gS s=mz s:=by
 simp only[ls,gS,mz,uu,List.any_nil,kB,<-uv];simp only[eq_comm]
theorem L7(H:Hp)(a b c d e f g h i:List UInt8):Rs Tryz.prog H 100 9 [(0,.str a),(1,.str b),(2,.str c),(3,.str d),(4,.str e),(5,.str f),(6,.str g),(7,.str h),(8,.str i)]=some (.sl H.next 0 9 1,H.alloc (.cells ([a,b,c,d,e,f,g,h,i].map .str) 0 true)):=ad
theorem L8(ρ:Nat->Int)(s:List UInt8):aX Tryz.prog ρ 59 [.str s] (.bool (mz s)):=Q7 fit (pls:=pls) (l:=[]) trivial (.cons (.str _) .nil) (.bool _) (by
 have I:=RO 59;refine P4 (M:=18) (rs:=[.tmp 2]) (I.call _) I.ice I.froz Tryz.func59 rfl rfl y6.2 rfl ?_;dsimp only[y6,PZ,Nat.reduceAdd];have F:=@L7;repeat' (first
  |(apply PO ?_;clear hK K)|apply Rx.o ?_|apply aj ?_|(apply PP fun K hK=>?_)|apply ay ?_|fail)
 refine Rk [0,3] [0] 4 9 (fun i E H=>ls gS s=ls (gS.drop i) s) eE aA ?_;rintro i E m hi O Y L g J;(try simp only[QK,Qs,a7,P7,Qy,Nat.reduceBEq, *]at O);(try simp only[QK,Qs,a7,P7,Qy, *]at Y);(try simp only[QA,Re,bZ]at L);have C:(0 == m.next)=false:=Rw aa;have o:(m.next == 0)=false:=Rw aa;change m.get 0=some (.cells (gS.map .str) 0 true)at Y;have A:gS.length=9:=rfl;repeat' (first
  |(apply PO ?_;clear hK K)|apply Rx.o ?_|(apply a6 (fun z Z=>?_) (fun z Z=>?_)<;>try(cases z;done))|apply aj ?_|(apply PP fun K hK=>?_)|apply ay ?_|apply PR ?_|apply aq ?_|apply PX ?_)
 .have V:i<gS.length:=by omega
  have j:gS[i]?=some gS[i]:=a1 V;have U:ls (gS.drop i) s=(decide (gS[i]=s)||ls (gS.drop (i+1)) s):=by rw[jb V];rfl
  have hi9:decide (i<9)=true:=cQ;repeat' (first
   |(apply PO ?_;clear hK K)|apply Ry.o ?_|(apply aH (fun z Z=>?_) (fun z Z=>?_)<;>try(cases z;done))|apply aj ?_|(apply PP fun K hK=>?_)|apply PR ?_|apply aq ?_|fail)
  .all_goals (refine⟨eI,_,P0,?_⟩;try simp only[PT])
   rw[<-zb,J,U];simp_all
  .refine⟨aa,(by simp only[QK,Qs,a7,P7,Qy,Nat.reduceBEq,gS, *]),(by simp only[QK,Qs,a7,P7,Qy,gS, *]),QN,(by simp only[P7,Nat.reduceBEq, *];exact Su (n:=9) aa aa),?_⟩;rw[J,U];simp_all
 .all_goals (refine⟨eI,_,P0,?_⟩;try simp only[PT])
  rw[<-zb,J,show i=9 by omega];rfl)
def kC(s:List UInt8):List AV:=[.str s]
theorem u2(x y:List UInt8)(h:kC x=kC y):x=y:=by simpa [kC]using h
noncomputable def pW:En:=⟨58,false,bG (fun s=>s.length<2^60) kC fun s=>.bool (lm s)⟩
noncomputable def pX:En:=⟨59,false,bG (fun _=>True) kC fun s=>.bool (mz s)⟩
theorem L9(ρ:Nat->Int):QM Tryz.prog ρ pW:=QP fun s K=>L4 ρ s K
theorem Ma(ρ:Nat->Int):QM Tryz.prog ρ pX:=QP fun s _=>L8 ρ s
theorem Mb(ρ:Nat->Int)(s:List UInt8)(Z:s.length<2^60):aX Tryz.prog ρ 29 [.str s] (.bool (mA s)):=Q7 fit (pls:=pls) (l:=[pW,pX]) ⟨L9 ρ,Ma ρ,trivial⟩ (.cons (.str _) .nil) (.bool _) (by
 have L:Plain (PU pls [pW,pX]) 29:=Ra (fun _=>rfl) rfl;have z:∀(H:Hp),P2 Tryz.prog (PU pls [pW,pX]) 58 [.str s] H fun v H'=>v=.bool (lm s)/\H'=H:=fun H=>Q0 (enc:=kC) (out:=fun n=>.bool (lm n)) u2 (x:=s) rfl Z;have i:∀(H:Hp),P2 Tryz.prog (PU pls [pW,pX]) 59 [.str s] H fun v H'=>v=.bool (mz s)/\H'=H:=fun H=>Q0 (enc:=kC) (out:=fun n=>.bool (mz n)) u2 (x:=s) rfl trivial;refine P4 (M:=10) (rs:=[.tmp 2]) (L.call _) L.ice L.froz Tryz.func29 rfl rfl y7.2 rfl ?_;dsimp only[y7,PZ,Nat.reduceAdd];repeat' (first
  |(apply PO ?_;clear hK K)|apply Rx.o ?_|(apply eR ?_;first|refine Rx.k (z _) ?_|refine Rx.k (i _) ?_)|(apply cK (fun A j=>?_) (fun A j=>?_)<;>try(cases A;done))|apply aj ?_|(apply PP fun K hK=>?_)|apply aq ?_)
 all_goals (refine⟨eI,_,P0,?_⟩;try simp only[PT])
 all_goals (simp_all[mA]))
end
section
def gT:Nat->AV->Bool
 |0,_=>false
 |n+1,v=>match v with
  | .sl _ _ _ _=>true
  | .agg M=>M.any (gT n)
  |_=>false
theorem sc{S:Nat->Prop}{H:Hp}{n m k:Nat}(ih:∀{v u:AV},QG S n H v u->gT m (bg k v)=false->bg k u=bg k v):∀{M j:List AV},QB (QG S n H) M j->(M.map (bg k)).any (gT m)=false->j.map (bg k)=M.map (bg k)
 |[],[],_,_=>rfl
 |c::M,d::j,h,h2=>by
  simp only[dS,uu,qM]at h2;rw[dS,dS,ih h.1 h2.1,sc ih h.2 h2.2]
theorem u3{S:Nat->Prop}{H:Hp}:∀(n m k:Nat) {v u:AV},n<=m->QG S n H v u->gT m (bg k v)=false->bg k u=bg k v
 |0,_,_,_,_,_,h,_=>h.elim
 |n+1,0,_,_,_,h,_,_=>by omega
 |n+1,m+1,k,v,u,hm,h,h2=>by
  cases v with
  |sl r o l z=>cases k<;>simp[bg,gT]at h2
  |agg M=>
   obtain⟨j,i,rfl⟩:=h;cases k with
   |zero=>
    have e:∀v,bg 0 v=v:=fun v=>by cases v<;>rfl
    have Z:(M.map (bg 0)).any (gT m)=false:=by
     rw[show M.map (bg 0)=M by rw[show bg 0=id from funext e,List.map_id]];simpa [bg,gT]using h2
    have:=sc (k:=0) (fun U A=>u3 n m 0 aa U A) i Z;rw[show bg 0=id from funext e,List.map_id,List.map_id]at this;rw[this]
   |succ k=>
    have Z:(M.map (bg k)).any (gT m)=false:=by simpa [bg,gT]using h2
    show AV.agg (j.map (bg k))=AV.agg (M.map (bg k));rw[sc (fun U A=>u3 n m k aa U A) i Z]
  |_=>obtain⟨_,rfl⟩:=h;rfl
theorem sd{l:List En}{L:FuncId}{O:Type}{ok:O->Prop}{enc:O->List AV}{out:O->AV}(F:∀x y,enc x=enc y->x=y)(I:∀V,QT l L V=bG ok enc out (V.map (bg 60)))(M:iI l L=true)(Z:∀y,(enc y).any (gT 90)=false){x:O}(C:ok x){S:Nat->Prop}{n:Nat}(K:n<=90){H:Hp}{Y us:List AV}(i:QB (QG S n H) Y us)(g:us.map (bg 60)=enc x):
 P2 Tryz.prog (PU pls l) L Y H fun v H'=>v=out x/\Icy S H H':=by
 by_cases hd:∃y,ok y/\enc y=Y.map (bg 60)
 .obtain⟨y,_,e⟩:=hd;have o:us.map (bg 60)=Y.map (bg 60):=sc (m:=90) (fun U A=>u3 n 90 60 K U A) i (by rw[<-e];exact Z y);refine b3 ?_ (pN (r:=out x) (by show QT l L Y=_;rw[I,<-o,g];exact pM F C));rintro v H' ⟨rfl,rfl⟩;exact⟨rfl,Icy.refl _ _⟩
 .obtain⟨H',U,A⟩:=QG.iceL (n:=100) (l:=Y) (m:=us) (QB.mono (fun a b k=>uL k aa) i);refine DH (r:=out x) ?_ M rfl U ?_ ⟨rfl,A⟩
  .show QT l L Y=none;rw[I];exact yi fun y J e=>hd ⟨y,J,e⟩
  .show QT l L us=_;rw[I,g];exact pM F C
theorem j5{P:Program}{cfg:Cfg}{f N:Nat}{a:SC}{E:ai}{H:Hp}{Q:AX->ai->Hp->Prop}(F:ai->Hp->Prop)(i:Wp P cfg f N a E H fun x E' H'=>x=.normal/\F E' H')(g:∀E' H',F E' H'->Q .normal E' H'):Wp P cfg f N a E H Q:=
 Wp.mono (fun x E' H' h=>by obtain⟨rfl,h⟩:=h;exact g E' H' h) i
structure Cx9 where
 S:Nat->Prop
 xp:Nat
 rp:Nat
 u:Un
 hv:AV
 f:Nat
 g:Gr
 sv:AV
 start:S9
 args:List Int
def kn(f:FuncId):Bool:=f == 37||f == 99999999||f == 99999999||f == 55
structure Std (cfg:Cfg):Prop where
 plain:∀f,kn f=false->Plain cfg f
 keep:∀f,cfg.keep f=false
 plan:cfg.plan=pu pls
def tyW6a.tyF:=ac @cZ (ac @dr (ac @r4 (ac @r5 (ac @yN (ac @r7 (ac @yR (ac @jE (@x8))))))))
open tyW6a
noncomputable def zd:{c:SC // aB 4 (Tryz.f122.body.getD .skip)=c}:=by
 refine⟨?_,?_⟩;rotate_left
 .simp only[Tryz.f122,bh,aB,Qh,Qe,Qm,Qn,Nat.blt,Nat.ble];rfl
noncomputable def ze:{c:SC // aB 15 (Tryz.f79.body.getD .skip)=c}:=by
 refine⟨?_,?_⟩;rotate_left
 .simp only[Tryz.f79,bh,aB,Qh,Qe,Qm,Qn,Nat.blt,Nat.ble];rfl
noncomputable def zf:{c:SC // aB 14 (Tryz.f48.body.getD .skip)=c}:=by
 refine⟨?_,?_⟩;rotate_left
 .simp only[Tryz.f48,bh,aB,Qh,Qe,Qm,Qn,Nat.blt,Nat.ble];rfl
noncomputable def zg:{c:SC // aB 61 (Tryz.f80.body.getD .skip)=c}:=by
 refine⟨?_,?_⟩;rotate_left
 .simp only[Tryz.f80,bh,aB,Qh,Qe,Qm,Qn,Nat.blt,Nat.ble];rfl
noncomputable def zh:{c:SC // aB 58 (Tryz.f49.body.getD .skip)=c}:=by
 refine⟨?_,?_⟩;rotate_left
 .simp only[Tryz.f49,bh,aB,Qh,Qe,Qm,Qn,Nat.blt,Nat.ble];rfl
theorem Mc{cfg:Cfg}(hS:Std cfg)(b:Bool)(H:Hp):P2 Tryz.prog cfg 122 [.bool b] H fun v H'=>v=.int .i64 (ky b)/\H'=H:=by
 cases b<;>
 .refine P4 (M:=4) (rs:=[.tmp 2]) ((hS.plain _ rfl).call _) (hS.plain _ rfl).ice (hS.plain _ rfl).froz Tryz.func122 rfl rfl zd.2 rfl ?_;dsimp only[zd,PZ,Nat.reduceAdd];repeat' (first
   |(apply PO ?_;clear hK K)|apply Rx.o ?_|(apply a6 (fun z i=>?_) (fun z i=>?_)<;>try(cases z;done))|apply aj ?_|(apply PP fun K hK=>?_)|apply PR ?_|apply aq ?_)
  all_goals (refine⟨eI,_,P0,?_⟩;try simp only[PT])
  simp[ky]
theorem Md{cfg:Cfg}(hS:Std cfg)(a b:Int)(H:Hp):P2 Tryz.prog cfg 79 [.int .i64 a,.int .i64 b] H fun v H'=>v=.int .i64 (jG a b)/\H'=H:=by
 refine P4 (M:=15) (rs:=[.tmp 4]) ((hS.plain _ rfl).call _) (hS.plain _ rfl).ice (hS.plain _ rfl).froz Tryz.func79 rfl rfl ze.2 rfl ?_;dsimp only[ze,PZ,Nat.reduceAdd];repeat' (first
  |(apply PO ?_;clear hK K)|apply Rx.o ?_|(apply a6 (fun z i=>?_) (fun z i=>?_)<;>try(cases z;done))|apply aj ?_|(apply PP fun K hK=>?_)|apply ay ?_|apply PR ?_|apply aq ?_)
 .all_goals (refine⟨eI,_,P0,?_⟩;try simp only[PT])
  simp_all[jG]
 .all_goals (refine⟨eI,_,P0,?_⟩;try simp only[PT])
  simp_all[jG]
 .have Z:b≠0:=by assumption
  repeat' (first
   |(apply PO ?_;clear hK K)|apply Rx.o ?_|(apply a6 (fun z i=>?_) (fun z i=>?_)<;>try(cases z;done))|apply aj ?_|(apply PP fun K hK=>?_)|apply ay ?_|apply PR ?_|apply aq ?_)
  all_goals (refine⟨eI,_,P0,?_⟩;try simp only[PT])
  simp_all[jG]
theorem Me{cfg:Cfg}(hS:Std cfg)(op a:Int)(H:Hp):P2 Tryz.prog cfg 48 [.int .i64 op,.int .i64 a] H fun v H'=>v=.int .i64 (fL op a)/\H'=H:=by
 refine P4 (M:=14) (rs:=[.tmp 4]) ((hS.plain _ rfl).call _) (hS.plain _ rfl).ice (hS.plain _ rfl).froz Tryz.func48 rfl rfl zf.2 rfl ?_;dsimp only[zf,PZ,Nat.reduceAdd];repeat' (first
  |(apply PO ?_;clear hK K)|apply Rx.o ?_|(apply a6 (fun z i=>?_) (fun z i=>?_)<;>try(cases z;done))|apply aj ?_|(apply PP fun K hK=>?_)|apply ay ?_|apply PR ?_|apply aq ?_)
 all_goals (refine⟨eI,_,P0,?_⟩;try simp only[PT])
 all_goals simp_all[fL]
theorem Mf{cfg:Cfg}(hS:Std cfg)(op a b:Int)(H:Hp):P2 Tryz.prog cfg 80 [.int .i64 op,.int .i64 a,.int .i64 b] H fun v H'=>v=.int .i64 (rS op a b)/\H'=H:=by
 have A:=x9 b;have F:QR Tryz.prog cfg.dec .shl 2 (.int .i64 a) (.int .u64 (gP b))=_:=ya A;have z:QR Tryz.prog cfg.dec .shr 2 (.int .i64 a) (.int .u64 (gP b))=_:=bin_shr A;have C:QR Tryz.prog cfg.dec .shr 154 (.int .u64 (IntKind.wrap .u64 a)) (.int .u64 (gP b))=_:=bin_shr A;unfold gP at F z C;refine P4 (M:=61) (rs:=[.tmp 6]) ((hS.plain _ rfl).call _) (hS.plain _ rfl).ice (hS.plain _ rfl).froz Tryz.func80 rfl rfl zg.2 rfl ?_;dsimp only[zg,PZ,Nat.reduceAdd];repeat' (first
  |(apply PO ?_;clear hK K)|apply Rx.o ?_|(apply eR ?_;first|refine Rx.k (Mc hS _ _) ?_)|(apply a6 (fun Z i=>?_) (fun Z i=>?_)<;>try(cases Z;done))|apply aj ?_|(apply PP fun K hK=>?_)|apply ay ?_|apply PR ?_|apply aq ?_)
 all_goals (refine⟨eI,_,P0,?_⟩;try simp only[PT])
 all_goals simp_all[rS,gP]
theorem Mg{cfg:Cfg}(hS:Std cfg)(op a b:Int)(H:Hp):P2 Tryz.prog cfg 49 [.int .i64 op,.int .i64 a,.int .i64 b] H fun v H'=>v=.int .i64 (gx op a b)/\H'=H:=by
 refine P4 (M:=58) (rs:=[.tmp 6]) ((hS.plain _ rfl).call _) (hS.plain _ rfl).ice (hS.plain _ rfl).froz Tryz.func49 rfl rfl zh.2 rfl ?_;dsimp only[zh,PZ,Nat.reduceAdd];repeat' (first
  |(apply PO ?_;clear hK K)|apply Rx.o ?_|(apply eR ?_;first|refine Rx.k (Md hS _ _ _) ?_|refine Rx.k (Mf hS _ _ _ _) ?_)|(apply a6 (fun z i=>?_) (fun z i=>?_)<;>try(cases z;done))|apply aj ?_|(apply PP fun K hK=>?_)|apply ay ?_|apply PR ?_|apply aq ?_)
 all_goals (refine⟨eI,_,P0,?_⟩;try simp only[PT])
 all_goals simp_all[gx]
end
section
def tyEvA.tyF:=ac @dr (ac @cZ (ac @pO (ac @Ge (ac @pP (ac @Hq (ac @Hv (ac @Kp (ac @Ku (ac @Ky (ac @KX (ac @Ld (ac @dK (ac @ey (ac @yz (ac @HC (@HY))))))))))))))))
open tyEvA
def Mh(f:FuncId):Bool:=Nat.beq f 149||Nat.beq f 150||Nat.beq f 102||Nat.beq f 104||Nat.beq f 151||Nat.beq f 184||Nat.beq f 153||Nat.beq f 103||Nat.beq f 65||Nat.beq f 36||Nat.beq f 34||Nat.beq f 33||Nat.beq f 35
def kE(x:Int×Int):List AV:=[.int .i64 x.1,.int .i64 x.2]
theorem zi(x y:Int×Int)(h:kE x=kE y):x=y:=by
 simp only[kE,dz,AV.int.injEq,a7,fJ]at h;exact iK h.1 h.2
def kF(x:Int×Int×Int):List AV:=[.int .i64 x.1,.int .i64 x.2.1,.int .i64 x.2.2]
theorem zj(x y:Int×Int×Int)(h:kF x=kF y):x=y:=by
 simp only[kF,dz,AV.int.injEq,a7,fJ]at h;exact iK h.1 (iK h.2.1 h.2.2)
theorem zk:Std (PU pls []) where
 plain f _:=Ra (fun _=>rfl) rfl
 keep _:=rfl
 plan:=rfl
theorem Mi(ρ:Nat->Int)(x:Int×Int):aX Tryz.prog ρ 48 (kE x) (.int .i64 (fL x.1 x.2)):=Q7 fit (pls:=pls) (l:=[]) trivial (.cons (.int _ _) (.cons (.int _ _) .nil)) (.int _ _) (b3 (fun v H' h=>h.1) (Me zk x.1 x.2 Qv))
theorem Mj(ρ:Nat->Int)(x:Int×Int×Int):aX Tryz.prog ρ 49 (kF x) (.int .i64 (gx x.1 x.2.1 x.2.2)):=Q7 fit (pls:=pls) (l:=[]) trivial (.cons (.int _ _) (.cons (.int _ _) (.cons (.int _ _) .nil))) (.int _ _) (b3 (fun v H' h=>h.1) (Mg zk x.1 x.2.1 x.2.2 Qv))
noncomputable def u4:En:=⟨48,false,bG (fun _=>True) kE fun x=>.int .i64 (fL x.1 x.2)⟩
theorem Mk(ρ:Nat->Int):QM Tryz.prog ρ u4:=QP fun x _=>Mi ρ x
noncomputable def u5:En:=⟨49,false,bG (fun _=>True) kF fun x=>.int .i64 (gx x.1 x.2.1 x.2.2)⟩
theorem Ml(ρ:Nat->Int):QM Tryz.prog ρ u5:=QP fun x _=>Mj ρ x
structure EvT (tb:List En):Prop where
 pl:∀f,Mh f=true->(∀ar,QT tb f ar=none)/\iI tb f=false
 un:∀ar,QT tb 48 ar=u4.sp ar
 bi:∀ar,QT tb 49 ar=u5.sp ar
section
variable {tb:List En} (hT:EvT tb) {c:Cx9} {H:Hp} {rows:List (List AV)} {res:List R9}
include hT
end
end
section
def tyVeW.tyF:=ac @dr (ac @cZ (ac @r4 (ac @r5 (ac @yN (ac @r7 (ac @yR (ac @jE (@x8))))))))
open tyVeW
noncomputable def zl:{c:SC // aB 4 (Tryz.f82.body.getD .skip)=c}:=by
 refine⟨?_,?_⟩;rotate_left
 .simp only[Tryz.f82,bh,aB,Qh,Qe,Qm,Qn,Nat.blt,Nat.ble];rfl
noncomputable def zm:{c:SC // aB 16 (Tryz.f81.body.getD .skip)=c}:=by
 refine⟨?_,?_⟩;rotate_left
 .simp only[Tryz.f81,bh,aB,Qh,Qe,Qm,Qn,Nat.blt,Nat.ble];rfl
noncomputable def zn:{c:SC // aB 14 (Tryz.f52.body.getD .skip)=c}:=by
 refine⟨?_,?_⟩;rotate_left
 .simp only[Tryz.f52,bh,aB,Qh,Qe,Qm,Qn,Nat.blt,Nat.ble];rfl
noncomputable def zo:{c:SC // aB 108 (Tryz.f51.body.getD .skip)=c}:=by
 refine⟨?_,?_⟩;rotate_left
 .simp only[Tryz.f51,bh,aB,Qh,Qe,Qm,Qn,Nat.blt,Nat.ble];rfl
theorem Mm(b:Bool)(H:Hp):P2 Tryz.prog (PU pls []) 82 [.bool b] H fun v H'=>v=.int .i64 (ky b)/\H'=H:=by
 have L:=RO 82;cases b<;>
 .refine P4 (M:=4) (rs:=[.tmp 2]) (L.call _) L.ice L.froz Tryz.func82 rfl rfl zl.2 rfl ?_;dsimp only[zl,PZ,Nat.reduceAdd];repeat' (first
   |(apply PO ?_;clear hK K)|apply Rx.o ?_|(apply a6 (fun z i=>?_) (fun z i=>?_)<;>try(cases z;done))|apply aj ?_|(apply PP fun K hK=>?_)|apply PR ?_|apply aq ?_)
  all_goals (refine⟨eI,_,P0,?_⟩;try simp only[PT])
  simp[ky]
theorem Mn(a b:Int)(H:Hp):P2 Tryz.prog (PU pls []) 81 [.int .i64 a,.int .i64 b] H fun v H'=>v=.int .i64 (jG a b)/\H'=H:=by
 have L:=RO 81;refine P4 (M:=16) (rs:=[.tmp 4]) (L.call _) L.ice L.froz Tryz.func81 rfl rfl zm.2 rfl ?_;dsimp only[zm,PZ,Nat.reduceAdd];repeat' (first
  |(apply PO ?_;clear hK K)|apply Rx.o ?_|(apply a6 (fun z i=>?_) (fun z i=>?_)<;>try(cases z;done))|apply aj ?_|(apply PP fun K hK=>?_)|apply ay ?_|apply PR ?_|apply aq ?_)
 .all_goals (refine⟨eI,_,P0,?_⟩;try simp only[PT])
  simp_all[jG]
 .all_goals (refine⟨eI,_,P0,?_⟩;try simp only[PT])
  simp_all[jG]
 .have Z:b≠0:=by assumption
  repeat' (first
   |(apply PO ?_;clear hK K)|apply Rx.o ?_|(apply a6 (fun z i=>?_) (fun z i=>?_)<;>try(cases z;done))|apply aj ?_|(apply PP fun K hK=>?_)|apply ay ?_|apply PR ?_|apply aq ?_)
  all_goals (refine⟨eI,_,P0,?_⟩;try simp only[PT])
  simp_all[jG]
theorem Mo(op a:Int)(H:Hp):P2 Tryz.prog (PU pls []) 52 [.int .i64 op,.int .i64 a] H fun v H'=>v=.int .i64 (fL op a)/\H'=H:=by
 have L:=RO 52;refine P4 (M:=14) (rs:=[.tmp 4]) (L.call _) L.ice L.froz Tryz.func52 rfl rfl zn.2 rfl ?_;dsimp only[zn,PZ,Nat.reduceAdd];repeat' (first
  |(apply PO ?_;clear hK K)|apply Rx.o ?_|(apply a6 (fun z i=>?_) (fun z i=>?_)<;>try(cases z;done))|apply aj ?_|(apply PP fun K hK=>?_)|apply ay ?_|apply PR ?_|apply aq ?_)
 all_goals (refine⟨eI,_,P0,?_⟩;try simp only[PT])
 all_goals simp_all[fL]
theorem Mp(op a b:Int)(H:Hp):P2 Tryz.prog (PU pls []) 51 [.int .i64 op,.int .i64 a,.int .i64 b] H fun v H'=>v=.int .i64 (gx op a b)/\H'=H:=by
 have L:=RO 51;have A:=x9 b;have F:QR Tryz.prog (PU pls []).dec .shl 2 (.int .i64 a) (.int .u64 (gP b))=_:=ya A;have z:QR Tryz.prog (PU pls []).dec .shr 2 (.int .i64 a) (.int .u64 (gP b))=_:=bin_shr A;have C:QR Tryz.prog (PU pls []).dec .shr 154 (.int .u64 (IntKind.wrap .u64 a)) (.int .u64 (gP b))=_:=bin_shr A;unfold gP at F z C;refine P4 (M:=108) (rs:=[.tmp 6]) (L.call _) L.ice L.froz Tryz.func51 rfl rfl zo.2 rfl ?_;dsimp only[zo,PZ,Nat.reduceAdd];repeat' (first
  |(apply PO ?_;clear hK K)|apply Rx.o ?_|(apply eR ?_;first|refine Rx.k (Mm _ _) ?_|refine Rx.k (Mn _ _ _) ?_)|(apply a6 (fun Z i=>?_) (fun Z i=>?_)<;>try(cases Z;done))|apply aj ?_|(apply PP fun K hK=>?_)|apply ay ?_|apply PR ?_|apply aq ?_)
 all_goals (refine⟨eI,_,P0,?_⟩;try simp only[PT])
 all_goals simp_all[gx,rS,gP]
theorem Mq(ρ:Nat->Int)(x:Int×Int):aX Tryz.prog ρ 52 (kE x) (.int .i64 (fL x.1 x.2)):=Q7 fit (pls:=pls) (l:=[]) trivial (.cons (.int _ _) (.cons (.int _ _) .nil)) (.int _ _) (b3 (fun v H' h=>h.1) (Mo x.1 x.2 Qv))
theorem Mr(ρ:Nat->Int)(x:Int×Int×Int):aX Tryz.prog ρ 51 (kF x) (.int .i64 (gx x.1 x.2.1 x.2.2)):=Q7 fit (pls:=pls) (l:=[]) trivial (.cons (.int _ _) (.cons (.int _ _) (.cons (.int _ _) .nil))) (.int _ _) (b3 (fun v H' h=>h.1) (Mp x.1 x.2.1 x.2.2 Qv))
noncomputable def zp:En:=⟨52,false,bG (fun _=>True) kE fun x=>.int .i64 (fL x.1 x.2)⟩
theorem Ms(ρ:Nat->Int):QM Tryz.prog ρ zp:=QP fun x _=>Mq ρ x
noncomputable def zq:En:=⟨51,false,bG (fun _=>True) kF fun x=>.int .i64 (gx x.1 x.2.1 x.2.2)⟩
theorem Mt(ρ:Nat->Int):QM Tryz.prog ρ zq:=QP fun x _=>Mr ρ x
end
def Rb(v:AV)(k:Nat):Prop:=∃n,v=.sl k 0 n 1
def nU(v A:AV)(H H':Hp):Prop:=(∀k,k<H.next->¬Rb v k->H'.get k=H.get k)/\∀k,Rb A k->Rb v k\/H.next<=k
def dx(H:Hp)(v:AV)(l:List Int)(lo:Nat):Prop:=∃r j,v=.sl r 0 l.length 1/\H.get r=some (.cells (l.map (.int .i64)) j true)/\j<=l.length/\lo<=r/\r<H.next
def QL(H:Hp)(v:AV)(l:List Int)(lo:Nat):Prop:=(v=.nilS/\l=[])\/dx H v l lo
theorem dx.low{H H':Hp}{v:AV}{l:List Int}{lo:Nat}(h:dx H v l lo)(m:H.next<=H'.next)(A:∀k,lo<=k->k<H.next->H'.get k=H.get k):dx H' v l lo:=by
 obtain⟨r,j,i,g,o,U,Z⟩:=h;exact⟨r,j,i,by rw[A r U Z];exact g,o,U,aa⟩
theorem dx.lt{H:Hp}{v:AV}{l:List Int}{lo:Nat}(h:dx H v l lo){k:Nat}(j:Rb v k):lo<=k/\k<H.next:=by
 obtain⟨r,Z,rfl,_,_,U,A⟩:=h;obtain⟨n,e⟩:=j;simp only[AV.sl.injEq]at e;rw[<-e.1];exact⟨U,A⟩
theorem QL.lt{H:Hp}{v:AV}{l:List Int}{lo:Nat}(h:QL H v l lo){k:Nat}(j:Rb v k):lo<=k/\k<H.next:=by
 rcases h with⟨rfl,_⟩|h
 .obtain⟨n,e⟩:=j;simp at e
 .exact h.lt j
theorem dx.keep{H H':Hp}{v:AV}{l:List Int}{lo:Nat}(h:dx H v l lo)(m:H.next<=H'.next)(A:∀k,Rb v k->H'.get k=H.get k):dx H' v l lo:=by
 obtain⟨r,j,rfl,g,o,U,Z⟩:=h;exact⟨r,j,rfl,uW,o,U,aa⟩
theorem QL.keep{H H':Hp}{v:AV}{l:List Int}{lo:Nat}(h:QL H v l lo)(m:H.next<=H'.next)(A:∀k,Rb v k->H'.get k=H.get k):QL H' v l lo:=h.imp id fun h=>h.keep m A
theorem se(l:List Int):(l.map (AV.int .i64)).all AV.one=true:=by simp[AV.one]
theorem Mu(m:List Int):(m.map fun s=>[AV.int .i64 s]).flatten=m.map (.int .i64):=by induction m with
 |nil=>rfl
 |cons a m ih=>simp[ih]
theorem Mv(H:Hp)(m:List Int):RE H 1 (Qg m)=some (m.length,m.map (.int .i64)):=by
 have e:RE H 1 (Qg m)=if ((m.map fun s=>[AV.int .i64 s]).all fun O=>O.length == 1)then some ((m.map fun s=>[AV.int .i64 s]).length,(m.map fun s=>[AV.int .i64 s]).flatten)else none:=rfl
 rw[e,az aA,Mu,cS]
theorem zr{H:Hp}{r imm:Nat}{m:List Int}(h:H.get r=some (.cells (m.map (.int .i64)) imm true)):RE H 1 (.sl r 0 m.length 1)=some (m.length,m.map (.int .i64)):=by
 have:=nD (H:=H) (r:=r) (o:=0) (n:=m.length) (z:=1) (s:=1) h aA;rw[this,eN,fF aA]
theorem Mw{H:Hp}{v x:AV}{l m:List Int}{lo:Nat}(U:QL H v l lo)(J:lo<=H.next)(C:RE H 1 x=some (m.length,m.map (.int .i64)))(O:m≠[])(V:l.length+m.length<2^40):
 ∃A H',Rj Tryz.prog false H 23 23 v x=some (A,H')/\dx H' A (l++m) lo/\H'.next=H.next+1/\(∀k,k<lo->H'.get k=H.get k)/\nU v A H H':=by
 obtain⟨n,Y⟩:∃n,m.length=n+1:=⟨m.length-1,by have:=mB.2 O;omega⟩;have M:Rd=70368744177664:=rfl;rw[Y]at C;rcases U with⟨rfl,rfl⟩|⟨r,Z,rfl,g,o,K,I⟩
 .refine⟨.sl H.next 0 (n+1) 1,H.alloc (.cells (m.map (.int .i64)) 0 true),append_nil Tryz.underlying23 fy mq mr ad C (se m) rfl iJ iJ,⟨H.next,0,by simp[Y],ga,aa,J,dh _⟩,rfl,fun k j=>fT,fun k j _=>fT,fun k j=>.inr ?_⟩;obtain⟨L,e⟩:=j;simp only[AV.sl.injEq]at e;omega
 .have z:RJ false H 1 (.sl r 0 l.length 1)=H:=by
   unfold RJ;simp only[g,bZ,cS,jw];have:Nat.blt l.length l.length=false:=by
    cases V:Nat.blt l.length l.length with
    |false=>rfl
    |true=>rw[eZ]at V;omega
   simp[this]
  refine⟨.sl H.next 0 (l.length+(n+1)) 1,(H.kill r).alloc (.cells (l.map (.int .i64)++m.map (.int .i64)) (Z-0) true),?_,⟨H.next,Z,by simp[Y],?_,cQ,J,dh _⟩,rfl,fun k j=>?_,fun k j i=>?_,fun k j=>.inr ?_⟩
  .simp only[Rj,Tryz.underlying23,fy,mq,mr,show Sr Tryz.prog 23=true by kernel_rfl,C,se,z,lg,cr,em,iX,SH,g,cS,bZ,jw,eN];rw[az ⟨iJ,iJ,trivial,trivial,o⟩];simp
  .show((H.kill r).alloc _).get (H.kill r).next=_
   rw[P8,az rfl];simp
  .rw[P8,af ja,RH,af aa]
  .rw[P8,af ja,RH,af (fun e=>i ⟨_,i6⟩)]
  .obtain⟨L,e⟩:=j;simp only[AV.sl.injEq]at e;omega
theorem SM{H:Hp}{v:AV}{l:List Int}{lo r imm:Nat}(s:Int)(Z:QL H v l lo)(J:lo<=H.next)(K:H.get r=some (.cells [.int .i64 s] imm true))(z:l.length<2^39):
 ∃A H',Rj Tryz.prog false H 23 23 v (.sl r 0 1 1)=some (A,H')/\dx H' A (l++[s]) lo/\H'.next=H.next+1/\(∀k,k<lo->H'.get k=H.get k)/\nU v A H H':=
 Mw Z J (zr (m:=[s]) K) aA cQ
theorem dx.len{H H':Hp}{v:AV}{l:List Int}{lo:Nat}(h:dx H v l lo):Qr Tryz.prog H' 23 v=some (.int .i64 l.length):=by
 obtain⟨r,j,rfl,_⟩:=h;exact RY Tryz.underlying23 _ _ _ _
theorem dx.at{H:Hp}{v:AV}{l:List Int}{lo:Nat}(h:dx H v l lo){i:Nat}(F:i<l.length):
 ∃r,Qt Tryz.prog 23 v (.int .i64 (i:Int))=some (.ptr r i)/\Ru Tryz.prog H 3 (.ptr r i)=some (.int .i64 l[i]):=by
 obtain⟨r,j,rfl,g,_⟩:=h;refine⟨r,?_,?_⟩
 .rw[mh Tryz.underlying23 fy F];simp
 .rw[j3 Tryz.underlying3 rfl g,dY,a1 F];rfl
theorem sf(l:List Int):Rv 1 l.length (l.map (.int .i64))=l.map fun s=>[AV.int .i64 s]:=by
 induction l with
 |nil=>rfl
 |cons a l ih=>simp[Rv,ih]
theorem zs(n:Nat):∀(l:List Int) (H:Hp),fR (eg (n+1)) (l.map (.int .i64)) H=some (l.map (.int .i64),H)
 |[],H=>rfl
 |a::l,H=>by
  have:=zs n l H;have e:eg (n+1) (.int .i64 a) H=some (.int .i64 a,H):=rfl;simp only[dS,fR,e,this]
theorem dx.ice{H:Hp}{v:AV}{l:List Int}{lo:Nat}(h:dx H v l lo)(n:Nat):
 ∃H',eg (n+2) v H=some (Qg l,H')/\dx H' v l lo/\H'.next=H.next/\(∀k,k<lo->H'.get k=H.get k)/\∀k,¬Rb v k->H'.get k=H.get k:=by
 obtain⟨r,j,rfl,Y,O,U,A⟩:=h;refine⟨H.set r (.cells (l.map (.int .i64)) (max j l.length) true),?_,⟨r,max j l.length,rfl,dQ,aa,U,A⟩,rfl,fun k Z=>jP,fun k Z=>by rw[a9,af (fun e=>Z ⟨_,i6⟩)]⟩;have e:eg (n+2) (.sl r 0 l.length 1) H=match H.get r with
  |some (.cells M j g)=>match Nat.ble (0+l.length*1) M.length&&Nat.ble j M.length with
   |true=>match fR (eg (n+1)) ((M.drop 0).take (l.length*1)) (H.set r (.cells M (max j (0+l.length*1)) g))with
    |some (V,H)=>some (.lst (Rv 1 l.length V),H)
    |none=>none
   |false=>none
  |_=>none:=rfl
 rw[e,Y];simp only[cS,bZ,jw,eN];have o:Nat.ble l.length l.length=true:=by rw[rW];omega
 have J:Nat.ble j l.length=true:=by rw[rW];omega
 rw[o,J];simp only[t4];rw[fF aA,zs];simp only[sf]
def iL(H:Hp)(v:AV)(l:List Int)(lo:Nat):Prop:=∃r,v=.sl r 0 l.length 1/\H.get r=some (.cells (l.map (.int .i64)) 0 true)/\lo<=r/\r<H.next
def jR(H:Hp)(v:AV)(l:List Int)(lo:Nat):Prop:=(v=.nilS/\l=[])\/iL H v l lo
theorem iL.b{H:Hp}{v:AV}{l:List Int}{lo:Nat}(h:iL H v l lo):dx H v l lo:=by
 obtain⟨r,i,g,o,U⟩:=h;exact⟨r,0,i,g,ca _,o,U⟩
theorem jR.n{H:Hp}{v:AV}{l:List Int}{lo:Nat}(h:jR H v l lo):QL H v l lo:=h.imp id fun h=>h.b
theorem iL.keep{H H':Hp}{v:AV}{l:List Int}{lo:Nat}(h:iL H v l lo)(m:H.next<=H'.next)(A:∀k,Rb v k->H'.get k=H.get k):iL H' v l lo:=by
 obtain⟨r,rfl,g,U,Z⟩:=h;exact⟨r,rfl,uW,U,aa⟩
theorem jR.keep{H H':Hp}{v:AV}{l:List Int}{lo:Nat}(h:jR H v l lo)(m:H.next<=H'.next)(A:∀k,Rb v k->H'.get k=H.get k):jR H' v l lo:=h.imp id fun h=>h.keep m A
theorem zt{H:Hp}{v x:AV}{l m:List Int}{lo:Nat}(V:jR H v l lo)(J:lo<=H.next)(C:RE H 1 x=some (m.length,m.map (.int .i64)))(U:m≠[])(Y:l.length+m.length<2^40):
 ∃A H',Rj Tryz.prog false H 23 23 v x=some (A,H')/\iL H' A (l++m) lo/\H'.next=H.next+1/\(∀k,k<lo->H'.get k=H.get k)/\nU v A H H':=by
 obtain⟨n,Z⟩:∃n,m.length=n+1:=⟨m.length-1,by have:=mB.2 U;omega⟩;have M:Rd=70368744177664:=rfl;rw[Z]at C;rcases V with⟨rfl,rfl⟩|⟨r,rfl,g,L,K⟩
 .refine⟨.sl H.next 0 (n+1) 1,H.alloc (.cells (m.map (.int .i64)) 0 true),append_nil Tryz.underlying23 fy mq mr ad C (se m) rfl iJ iJ,⟨H.next,by simp[Z],ga,J,dh _⟩,rfl,fun k j=>fT,fun k j _=>fT,fun k j=>.inr ?_⟩;obtain⟨O,e⟩:=j;simp only[AV.sl.injEq]at e;omega
 .have z:RJ false H 1 (.sl r 0 l.length 1)=H:=by
   unfold RJ;simp only[g,bZ,cS,jw];have:Nat.blt l.length l.length=false:=by
    cases Y:Nat.blt l.length l.length with
    |false=>rfl
    |true=>rw[eZ]at Y;omega
   simp[this]
  refine⟨.sl H.next 0 (l.length+(n+1)) 1,(H.kill r).alloc (.cells (l.map (.int .i64)++m.map (.int .i64)) (0-0) true),?_,⟨H.next,by simp[Z],?_,J,dh _⟩,rfl,fun k j=>?_,fun k j i=>?_,fun k j=>.inr ?_⟩
  .simp only[Rj,Tryz.underlying23,fy,mq,mr,show Sr Tryz.prog 23=true by kernel_rfl,C,se,z,lg,cr,em,iX,SH,g,cS,bZ,jw,eN];rw[az ⟨iJ,iJ,trivial,trivial,ca _⟩];simp
  .show((H.kill r).alloc _).get (H.kill r).next=_
   rw[P8,az rfl];simp
  .rw[P8,af ja,RH,af aa]
  .rw[P8,af ja,RH,af (fun e=>i ⟨_,i6⟩)]
  .obtain⟨O,e⟩:=j;simp only[AV.sl.injEq]at e;omega
theorem My{H:Hp}{v:AV}{l:List Int}{lo r imm:Nat}(s:Int)(Z:jR H v l lo)(J:lo<=H.next)(K:H.get r=some (.cells [.int .i64 s] imm true))(z:l.length<2^39):
 ∃A H',Rj Tryz.prog false H 23 23 v (.sl r 0 1 1)=some (A,H')/\iL H' A (l++[s]) lo/\H'.next=H.next+1/\(∀k,k<lo->H'.get k=H.get k)/\nU v A H H':=
 zt Z J (zr (m:=[s]) K) aA cQ
theorem zu(n:Nat):gF [.int .i64 0] n=(List.replicate n (0:Int)).map (.int .i64):=by
 induction n with
 |zero=>rfl
 |succ n ih=>simp only[gF,ih];simp[List.replicate_succ]
theorem Mz(n:Nat):gF [.bool false] n=(List.replicate n false).map .bool:=by
 induction n with
 |zero=>rfl
 |succ n ih=>simp only[gF,ih];simp[List.replicate_succ]
theorem zw{H:Hp}(n c:Nat)(h:n<=c)(Z:c<2^40):RK Tryz.prog H 23 (.int .i64 n) (.int .i64 c)=some (.sl H.next 0 n 1,H.alloc (.cells ((List.replicate n (0:Int)).map (.int .i64)) 0 true)):=by
 have V:Rd=70368744177664:=rfl;show RK Tryz.prog H 23 (.int .i64 (Int.ofNat n)) (.int .i64 (Int.ofNat c))=_;simp only[RK,Tryz.underlying23,fy,mq,mr];rw[az ⟨h,l0,l0,rfl⟩,zu]
theorem zx{H:Hp}(n:Nat)(Z:n<2^40):RK Tryz.prog H 121 (.int .i64 n) (.int .i64 n)=some (.sl H.next 0 n 1,H.alloc (.cells ((List.replicate n false).map .bool) 0 true)):=by
 have V:Rd=70368744177664:=rfl;show RK Tryz.prog H 121 (.int .i64 (Int.ofNat n)) (.int .i64 (Int.ofNat n))=_;simp only[RK,Tryz.underlying121,r0,yr,yu];rw[az ⟨aC _,l0,l0,rfl⟩,Mz]
theorem splice_one(cs:List AV){o:Nat}(U:o<cs.length)(x:AV):splice cs o [x]=cs.set o x:=by
 rw[xR,List.set_eq_take_append_cons_drop,az U];simp
theorem pY{H:Hp}{r o:Nat}{cs:List AV}(A:H.get r=some (.cells cs 0 true))(U:o<cs.length)(n:Int):RT Tryz.prog H 3 (.ptr r o) (.int .i64 n)=some (H.set r (.cells (cs.set o (.int .i64 n)) 0 true)):=by
 rw[rK,A,fy,rJ,Ab.cells_int,splice_one cs U,az ⟨rfl,ca _,U,rfl⟩]
theorem MA{H:Hp}{r o:Nat}{cs:List AV}(A:H.get r=some (.cells cs 0 true))(U:o<cs.length)(b:Bool):RT Tryz.prog H 4 (.ptr r o) (.bool b)=some (H.set r (.cells (cs.set o (.bool b)) 0 true)):=by
 rw[rK,A,r0,rJ,xS,splice_one cs U,az ⟨rfl,ca _,U,rfl⟩]
def lw(l:List Int):AV:=if l=[]then .nilS else Qg l
def iM(H:Hp)(v:AV)(l:List Int)(lo:Nat):Prop:=(v=.nilS/\l=[])\/(l≠[]/\dx H v l lo)
theorem iM.n{H:Hp}{v:AV}{l:List Int}{lo:Nat}(h:iM H v l lo):QL H v l lo:=h.imp id fun h=>h.2
theorem iM.keep{H H':Hp}{v:AV}{l:List Int}{lo:Nat}(h:iM H v l lo)(m:H.next<=H'.next)(A:∀k,Rb v k->H'.get k=H.get k):iM H' v l lo:=h.imp id fun h=>⟨h.1,h.2.keep m A⟩
theorem zy(H:Hp)(n:Nat):∀l:List Int,iceL (iceV H (n+1)) (l.map (.int .i64))=some (l.map (.int .i64))
 |[]=>rfl
 |a::l=>by
  have:=zy H n l;have e:iceV H (n+1) (.int .i64 a)=some (.int .i64 a):=rfl;simp only[dS,iceL,e,this]
theorem dx.iceV{H:Hp}{v:AV}{l:List Int}{lo:Nat}(h:dx H v l lo)(n:Nat):iceV H (n+2) v=some (Qg l):=by
 obtain⟨r,j,rfl,Z,_⟩:=h;have e:Ab.iceV H (n+2) (.sl r 0 l.length 1)=match H.get r with
  |some (.cells M _ _)=>match iceL (Ab.iceV H (n+1)) ((M.drop 0).take (l.length*1))with
   |some g=>if g.length=l.length*1 then some (.lst (Rv 1 l.length g))else none
   |none=>none
  |_=>none:=rfl
 rw[e,Z];simp only[eN,jw];rw[fF aA,zy];simp only[cS,cr,sf]
theorem iM.iceV{H:Hp}{v:AV}{l:List Int}{lo:Nat}(h:iM H v l lo)(n:Nat):iceV H (n+2) v=some (lw l):=by
 rcases h with⟨rfl,rfl⟩|⟨z,h⟩
 .rfl
 .rw[h.iceV,lw,af z]
theorem u6(n:Nat)(l:List Int):bg (n+2) (lw l)=Qg l:=by
 unfold lw;split
 .rename_i h;subst h;rfl
 .show AV.lst ((l.map fun s=>[AV.int .i64 s]).map fun O=>O.map (bg (n+1)))=_;rw[nt];rfl
end Go.Proofs.YtljebeflbbgibaaGreat
namespace Go.Ab
set_option maxRecDepth 20000
open Go
def QX(op:Int):Int:=if op=2 then 5 else if op=3 then 255 else if op=23\/op=28 then 3 else if op=27 then 1000016 else if op=30 then 7 else if op=31 then 15 else if op=25 then 15 else -1
def QH(op n:Int):Bool:=
 if op=1 then true
 else if QX op<0 then decide (n=0)
 else decide (0<=n)&&decide (n<=QX op)&&(!decide (op=27)||decide (0<n))
def Qk(k:List Int):Bool:=k.all fun x=>decide (x=1)
def Qi(b:Bool)(n:Int):Int:=if b then n else 0
def Qc(l:List Nd)(n:Nd)(k:List Int):Int:=
 if (aM n.op).2=false then 0
 else if 0<=(aM n.op).1/\(n.kids.length:Int)≠(aM n.op).1 then 0
 else if QH n.op n.imm=false then 0
 else if n.op=3 then (if n.imm.tmod 16=0 then 2 else 1)
 else if n.op=26 then 2
 else if n.op=22 then (if k.headD 0≠1\/k.getD 1 0≠k.getD 2 0\/k.getD 1 0=3 then 0 else k.getD 1 0)
 else if n.op=23 then Qi (decide (k.headD 0=2)&&decide (k.getD 1 0=1)) 1
 else if n.op=24 then Qi (decide (k.headD 0=2)) 1
 else if n.op=25 then (if k.headD 0≠3\/(Sp l (n.kids.headD 0)).tdiv 2<=n.imm then 0 else Qi (decide (n.imm=0)) 1+1)
 else if n.op=27\/n.op=29 then Qi (decide (k.headD 0=2)&&decide (k.getD 1 0=1)) 2
 else if n.op=28 then Qi (decide (k.headD 0=2)&&decide (k.getD 1 0=1)&&decide (k.getD 2 0=1)) 2
 else if n.op=30 then Qi (decide (1<=k.length)&&decide (k.length<=7)&&decide (k.headD 0=2)&&Qk (k.drop 1)) 2
 else if n.op=31 then Qi (decide (k.length%2=1)&&decide (1<=k.length/2)&&decide (k.length/2<=16)&&decide (k.headD 0=2)&&Qk ((k.drop 1).take (k.length/2))&&decide (k.getD (k.length/2+1) 0=2)&&Qk (k.drop (k.length/2+2))) 3
 else Qi (Qk k) 1
def u7(l:List Nd)(i:Nat)(g:List Int):Int:=match l[i]? with
 |none=>0
 |some n=>match Rf i g n.kids with
  |none=>0
  |some s=>Qc l n s
theorem u9:∀(s w:List Int),s.length<=w.length->(∀x∈w,x=1)->Qw s w=Qk s
 |[],w,_,_=>by simp[Qw,Qk]
 |a::s,[],h,_=>by simp at h
 |a::s,b::w,h,hw=>by
  have z:=hw b et;subst z;rw[Qw,pz,List.tail_cons,u9 s w iE (fun x C=>hw x (ft _ C))];simp[Qk]
theorem sg(a b:Int)(s w:List Int):Qw (a::s) (b::w)=(decide (a=b)&&Qw s w):=rfl
theorem MB(n m:Nat)(h:m<n):(List.replicate n (1:Int)).set m 2=List.replicate m 1++2::List.replicate (n-m-1) 1:=by
 apply List.ext_getElem?;intro i;rw[tI,List.getElem?_append];simp only[pS];by_cases c:i<m
 .rw[af aa,az c,nz,nz,az aa,az c]
 .rw[af c];by_cases e:m=i
  .subst e;simp[h]
  .rw[af e];obtain⟨j,rfl⟩:∃j,i=m+1+j:=⟨i-m-1,aa⟩;rw[show m+1+j-m=j+1 by omega,r9,nz,nz];by_cases g:m+1+j<n
   .rw[az g,az aa]
   .rw[af g,af aa]
theorem zA:∀(a s w v:List Int),a.length=w.length->Qw (a++s) (w++v)=(Qw a w&&Qw s v)
 |[],s,[],v,_=>by simp[Qw]
 |x::a,s,y::w,v,h=>by
  rw[fM,fM,sg,sg,zA a s w v iE,nS]
 |[],_,_::_,_,h=>by simp at h
 |_::_,_,[],_,h=>ko
theorem pZ(n:Nat)(h:1<=n):ek n=((n-1)/2:Nat):=by
 unfold ek;rw[show(n:Int)-1=((n-1:Nat):Int) by omega];rfl
theorem MC(s:List Int)(h:3<=s.length)(L:s.length%2=1):Qw s (RZ s.length)=(decide (s.headD 0=2)&&Qk ((s.drop 1).take (s.length/2))&&decide (s.getD (s.length/2+1) 0=2)&&Qk (s.drop (s.length/2+2))):=by
 obtain⟨m,V⟩:∃m,s.length=2*m+1:=⟨s.length/2,aa⟩;have Z:1<=m:=aa;have U:s.length/2=m:=aa;have z:(ek s.length+1).toNat=m+1:=by rw[pZ _ aa];omega
 have I:RZ s.length=2::(List.replicate m 1++2::List.replicate (m-1) 1):=by
  unfold RZ;rw[z,V];have M:List.replicate (2*m+1) (1:Int)=1::List.replicate (2*m) 1:=rfl;rw[M,uY,List.set_cons_succ,MB _ _ aa]
  congr 4;omega
 rw[I,U]
 match s,V with
 |a::t,V=>
  have o:t.length=2*m:=by simpa using V
  rw[sg,pz,y1,eN];have hd:t=t.take m++t.drop m:=(List.take_append_drop m t).symm;have O:(t.take m).length=m:=nl
  conv=>lhs;rw[hd]
  rw[zA _ _ _ _ (by rw[O];simp),u9 (t.take m) _ (by rw[O];simp) (fun x C=>y2 C)];have A:(a::t).getD (m+1) 0=t.getD m 0:=rfl;have Y:(a::t).drop (m+2)=t.drop (m+1):=rfl;rw[A,Y];have g:t.drop m=t.getD m 0::t.drop (m+1):=by
   rw[jb aa,cN,a1 aa];rfl
  rw[g,sg,u9 (t.drop (m+1)) _ cQ (fun x C=>y2 C),nS,nS]
theorem lx{O:Type}{s:List O}(h:s.length=0):s=[]:=uZ h
theorem iN{O:Type}{s:List O}(h:s.length=1):∃a,s=[a]:=by
 match s,h with
 |[a],_=>exact⟨a,rfl⟩
theorem jc{O:Type}{s:List O}(h:s.length=2):∃a b,s=[a,b]:=by
 match s,h with
 |[a,b],_=>exact⟨a,b,rfl⟩
theorem kG{O:Type}{s:List O}(h:s.length=3):∃a b c,s=[a,b,c]:=by
 match s,h with
 |[a,b,c],_=>exact⟨a,b,c,rfl⟩
theorem MD{l:List Nd}{n:Nd}{s:List Int}(I:s.length=n.kids.length)(Z:∀x∈s,1<=x/\x<=3)(h3:s.headD 0=3->n.op=25->∃m:Nat,Sp l (n.kids.headD 0)=2*(m:Int)+1/\1<=m/\m<=16):
 (if Qj n.op s&&QE l n then QS n s else 0)=Qc l n s:=by
 obtain⟨C,j,A⟩:=n;simp only at I h3;have i:∀a:Int,0<=a->aM C=(a,true)->(s.length:Int)≠a->(if Qj C s&&QE l ⟨C,j,A⟩then QS ⟨C,j,A⟩ s else 0)=Qc l ⟨C,j,A⟩ s:=fun a h0 K g=>by
  have M:Qj C s=false:=by
   unfold Qj;rw[K];simp only[kW,cC];rw[az ⟨h0,Ne.symm g⟩]
  have J:Qc l ⟨C,j,A⟩ s=0:=by
   unfold Qc;simp only[K,kW,cC];rw[az ⟨h0,by rw[<-I];exact g⟩]
  rw[M,J];rfl
 have cases:C<1\/31<C\/C=1\/C=2\/C=3\/(4<=C/\C<=19)\/C=20\/C=21\/C=22\/C=23\/C=24\/C=25\/C=26\/C=27\/C=28\/C=29\/C=30\/C=31:=aa;rcases cases with h|h|rfl|rfl|rfl|h|rfl|rfl|rfl|rfl|rfl|rfl|rfl|rfl|rfl|rfl|rfl|rfl
 .have K:aM C=(0,false):=by
   unfold aM;repeat rw[af aa]
  simp[Qj,Qc,K]
 .have K:aM C=(0,false):=by
   unfold aM;repeat rw[af aa]
  simp[Qj,Qc,K]
 -- 1
 .by_cases c:(s.length:Int)=0
  .obtain rfl:=lx (s:=s) aa;have:A=[]:=lx gQ;subst this;simp[Qj,Qc,aM,QE,QH,QS,Qw,QO,Qk,Qi]
  .exact i 0 aa bA c
 -- 2
 .by_cases c:(s.length:Int)=0
  .obtain rfl:=lx (s:=s) aa;have:A=[]:=lx gQ;subst this;by_cases b:0<=j/\j<=5
   .have b1:=b.1;have V:=b.2;simp[Qj,Qc,aM,QE,QH,Q1,QX,QS,Qw,QO,Qk,Qi,b1,V]
   .simp[Qj,Qc,aM,QE,QH,Q1,QX,QS,Qw,QO,Qk,Qi];omega
  .exact i 0 aa bA c
 -- 3
 .by_cases c:(s.length:Int)=0
  .obtain rfl:=lx (s:=s) aa;have:A=[]:=lx gQ;subst this;by_cases b:0<=j/\j<=255
   .have b1:=b.1;have V:=b.2;by_cases e:j.tmod 16=0<;>simp[Qj,Qc,aM,QE,QH,Q1,QX,QS,Qw,QO,Qk,Qi,b1,V,e]
   .simp[Qj,Qc,aM,QE,QH,Q1,QX,QS,Qw,QO,Qk,Qi];omega
  .exact i 0 aa bA c
 -- 4 to 19
 .obtain⟨g1,g2⟩:=h;have q:∀k:Int,(k<4\/19<k)->¬C=k:=fun k Z e=>aa;have K:aM C=(2,true):=by
   unfold aM;rw[af aa,af aa,af aa,af aa,af aa,az ⟨g1,g2⟩]
  have t:∀k:Int,(k<4\/19<k)->decide (C=k)=false:=fun k Z=>mC (q k Z);by_cases c:(s.length:Int)=2
  .obtain⟨a,b,rfl⟩:=jc (s:=s) aa;obtain⟨x,y,rfl⟩:=jc (s:=A) gQ;have m0:QX C=-1:=by unfold QX;rw[af (q 2 aa),af (q 3 aa),af aa,af (q 27 aa),af (q 30 aa),af (q 31 aa),af (q 25 aa)]
   have Sk:Q1 l ⟨C,j,[x,y]⟩=0:=by unfold Q1;simp only[];rw[af (q 2 aa),af (q 3 aa),af aa,af (q 30 aa),af (q 31 aa),af (q 25 aa)]
   have m2:QO C=[1,1]:=by unfold QO;rw[af (q 22 aa),af aa,af (q 28 aa),af (q 24 aa),af (q 25 aa)]
   have m3:QS ⟨C,j,[x,y]⟩ [a,b]=1:=by unfold QS;simp only[];rw[af (q 31 aa),af aa,af (q 22 aa),af (fun e=>q 3 aa e.1),af (fun e=>q 25 aa e.1)]
   have M:Qj C [a,b]=(decide (a=1)&&decide (b=1)):=by
    unfold Qj;rw[K];simp only[kW,cC];rw[af aA,af (q 31 aa),af (q 30 aa),af (fun e=>q 22 aa e.1),m2];simp[Qw]
   have J:QE l ⟨C,j,[x,y]⟩=decide (j=0):=by
    unfold QE;simp only[];rw[af (q 1 aa),af (q 27 aa),Sk];by_cases z:j=0
    .simp[z]
    .simp[z];omega
   have e3:QH C j=decide (j=0):=by
    unfold QH;rw[af (q 1 aa),m0];rfl
   have e4:Qc l ⟨C,j,[x,y]⟩ [a,b]=if j=0 then Qi (Qk [a,b]) 1 else 0:=by
    unfold Qc;simp only[K,e3,kW,cC];rw[af aA];by_cases z:j=0
    .rw[af (by simp[z]),af (q 3 aa),af (q 26 aa),af (q 22 aa),af (q 23 aa),af (q 24 aa),af (q 25 aa),af aa,af (q 28 aa),af (q 30 aa),af (q 31 aa),az z]
    .rw[az (by simp[z]),af z]
   rw[M,J,e4,m3];by_cases z:j=0
   .simp[z,Qi,Qk]
   .simp[z]
  .exact i 2 aa K c
 -- 20
 .by_cases c:(s.length:Int)=1
  .obtain⟨a,rfl⟩:=iN (s:=s) aa;obtain⟨x,rfl⟩:=iN (s:=A) gQ;have F:=Z a aA;by_cases b:j=0
   .subst b;simp[Qj,Qc,aM,QE,QH,Q1,QX,QS,Qw,QO,Qk,Qi]
   .have V:¬(0<=j/\j<=0):=by omega
    simp[Qj,Qc,aM,QE,QH,Q1,QX,QS,Qw,QO,Qk,Qi,b];omega
  .exact i 1 aa bA c
 -- 21
 .by_cases c:(s.length:Int)=1
  .obtain⟨a,rfl⟩:=iN (s:=s) aa;obtain⟨x,rfl⟩:=iN (s:=A) gQ;have F:=Z a aA;by_cases b:j=0
   .subst b;simp[Qj,Qc,aM,QE,QH,Q1,QX,QS,Qw,QO,Qk,Qi]
   .have V:¬(0<=j/\j<=0):=by omega
    simp[Qj,Qc,aM,QE,QH,Q1,QX,QS,Qw,QO,Qk,Qi,b];omega
  .exact i 1 aa bA c
 -- 22
 .by_cases c:(s.length:Int)=3
  .obtain⟨a,b,c1,rfl⟩:=kG (s:=s) aa;obtain⟨x,y,z,rfl⟩:=kG (s:=A) gQ;have F:=Z a aA;have kb:=Z b aA;have kc:=Z c1 aA;by_cases z:j=0
   .subst z;have ka':a=1\/a=2\/a=3:=aa;have kb':b=1\/b=2\/b=3:=aa;have kc':c1=1\/c1=2\/c1=3:=aa;rcases ka' with rfl|rfl|rfl<;>rcases kb' with rfl|rfl|rfl<;>rcases kc' with rfl|rfl|rfl<;>simp[Qj,Qc,aM,QE,QH,Q1,QX,QS,Qw,QO,Qk,Qi]
   .simp[Qj,Qc,aM,QE,QH,Q1,QX,QS,Qw,QO,Qk,Qi,z];omega
  .exact i 3 aa bA c
 -- 23
 .by_cases c:(s.length:Int)=2
  .obtain⟨a,b,rfl⟩:=jc (s:=s) aa;obtain⟨x,y,rfl⟩:=jc (s:=A) gQ;have F:=Z a aA;have kb:=Z b aA;by_cases z:0<=j/\j<=3
   .have L:=z.1;have Y:=z.2;simp[Qj,Qc,aM,QE,QH,Q1,QX,QS,Qw,QO,Qk,Qi,L,Y]
   .have U:¬(0<=j)\/¬(j<=3):=by omega
    rcases U with U|U <;>simp[Qj,Qc,aM,QE,QH,Q1,QX,QS,Qw,QO,Qk,Qi,U]
  .exact i 2 aa bA c
 -- 24
 .by_cases c:(s.length:Int)=1
  .obtain⟨a,rfl⟩:=iN (s:=s) aa;obtain⟨x,rfl⟩:=iN (s:=A) gQ;have F:=Z a aA;by_cases b:j=0
   .subst b;simp[Qj,Qc,aM,QE,QH,Q1,QX,QS,Qw,QO,Qk,Qi]
   .have V:¬(0<=j/\j<=0):=by omega
    simp[Qj,Qc,aM,QE,QH,Q1,QX,QS,Qw,QO,Qk,Qi,b];omega
  .exact i 1 aa bA c
 -- 25
 .by_cases c:(s.length:Int)=1
  .obtain⟨a,rfl⟩:=iN (s:=s) aa;obtain⟨x,rfl⟩:=iN (s:=A) gQ;have F:=Z a aA;by_cases e:a=3
   .subst e;obtain⟨m,hm,Sk,m2⟩:=h3 rfl rfl;simp only[pz]at hm;have SF:ek (Sp l x)=m:=by rw[hm];unfold ek;rw[show(2*(m:Int)+1-1)=((2*m:Nat):Int) by omega];show(((2*m)/2:Nat):Int)=m;omega
    have SG:(Sp l x).tdiv 2=m:=by rw[hm];show(((2*m+1)/2:Nat):Int)=m;omega
    by_cases z:0<=j/\j<=(m:Int)-1
    .have L:=z.1;have Y:=z.2;have z3:j<=15:=aa;have O:¬(m:Int)<=j:=aa;by_cases y:j=0
     .subst y;simp[Qj,Qc,aM,QE,QH,Q1,QX,QS,Qw,QO,Qk,Qi,SF,SG,Y,O];rw[az aa,af aa]
     .simp[Qj,Qc,aM,QE,QH,Q1,QX,QS,Qw,QO,Qk,Qi,SF,SG,L,Y,z3,O,y]
    .by_cases L:0<=j
     .have Y:¬j<=(m:Int)-1:=by omega
      have O:(m:Int)<=j:=aa;simp[Qj,Qc,aM,QE,QH,Q1,QX,QS,Qw,QO,Qk,Qi,SF,SG,L,Y,O]
     .simp[Qj,Qc,aM,QE,QH,Q1,QX,QS,Qw,QO,Qk,Qi,SF,SG,L]
   .simp[Qj,Qc,aM,QE,QH,Q1,QX,QS,Qw,QO,Qk,Qi,e]
  .exact i 1 aa bA c
 -- 26
 .by_cases c:(s.length:Int)=0
  .obtain rfl:=lx (s:=s) aa;have:A=[]:=lx gQ;subst this;by_cases b:j=0
   .subst b;simp[Qj,Qc,aM,QE,QH,Q1,QX,QS,Qw,QO,Qk,Qi]
   .have V:¬(0<=j/\j<=0):=by omega
    simp[Qj,Qc,aM,QE,QH,Q1,QX,QS,Qw,QO,Qk,Qi,b];omega
  .exact i 0 aa bA c
 -- 27
 .by_cases c:(s.length:Int)=2
  .obtain⟨a,b,rfl⟩:=jc (s:=s) aa;obtain⟨x,y,rfl⟩:=jc (s:=A) gQ;have F:=Z a aA;have kb:=Z b aA;by_cases z:1<=j/\j<=1000016
   .have L:=z.1;have Y:=z.2;have z3:0<=j:=aa;have O:0<j:=aa;simp[Qj,Qc,aM,QE,QH,Q1,QX,QS,Qw,QO,Qk,Qi,L,Y,z3,O]
   .have U:¬(1<=j)\/¬(j<=1000016):=by omega
    rcases U with U|U
    .have O:¬0<j:=by omega
     simp[Qj,Qc,aM,QE,QH,Q1,QX,QS,Qw,QO,Qk,Qi,U,O]
    .simp[Qj,Qc,aM,QE,QH,Q1,QX,QS,Qw,QO,Qk,Qi,U]
  .exact i 2 aa bA c
 -- 28
 .by_cases c:(s.length:Int)=3
  .obtain⟨a,b,c1,rfl⟩:=kG (s:=s) aa;obtain⟨x,y,z,rfl⟩:=kG (s:=A) gQ;have F:=Z a aA;have kb:=Z b aA;have kc:=Z c1 aA;by_cases z:0<=j/\j<=3
   .have L:=z.1;have Y:=z.2;simp[Qj,Qc,aM,QE,QH,Q1,QX,QS,Qw,QO,Qk,Qi,L,Y,nS]
   .have U:¬(0<=j)\/¬(j<=3):=by omega
    rcases U with U|U <;>simp[Qj,Qc,aM,QE,QH,Q1,QX,QS,Qw,QO,Qk,Qi,U]
  .exact i 3 aa bA c
 -- 29
 .by_cases c:(s.length:Int)=2
  .obtain⟨a,b,rfl⟩:=jc (s:=s) aa;obtain⟨x,y,rfl⟩:=jc (s:=A) gQ;have F:=Z a aA;have kb:=Z b aA;by_cases b:j=0
   .subst b;simp[Qj,Qc,aM,QE,QH,Q1,QX,QS,Qw,QO,Qk,Qi]
   .have V:¬(0<=j/\j<=0):=by omega
    simp[Qj,Qc,aM,QE,QH,Q1,QX,QS,Qw,QO,Qk,Qi,b];omega
  .exact i 2 aa bA c
 -- 30
 .have M:Qj 30 s=(decide (1<=s.length)&&decide (s.length<=7)&&decide (s.headD 0=2)&&Qk (s.drop 1)):=by
   simp[Qj,aM,Qk,List.drop_one]
  have J:Qc l ⟨30,j,A⟩ s=if QH 30 j=false then 0 else Qi (decide (1<=s.length)&&decide (s.length<=7)&&decide (s.headD 0=2)&&Qk (s.drop 1)) 2:=by
   simp[Qc,aM]
  have e3:QE l ⟨30,j,A⟩=QH 30 j:=by simp[QE,QH,Q1,QX]
  rw[M,J,e3];generalize (decide (1<=s.length)&&decide (s.length<=7)&&decide (s.headD 0=2)&&Qk (s.drop 1))=v;cases QH 30 j<;>cases v<;>simp[QS,Qi]
 -- 31
 .have e3:QE l ⟨31,j,A⟩=QH 31 j:=by simp[QE,QH,Q1,QX]
  have J:Qc l ⟨31,j,A⟩ s=if QH 31 j=false then 0 else Qi (decide (s.length%2=1)&&decide (1<=s.length/2)&&decide (s.length/2<=16)&&decide (s.headD 0=2)&&Qk ((s.drop 1).take (s.length/2))&&decide (s.getD (s.length/2+1) 0=2)&&Qk (s.drop (s.length/2+2))) 3:=by
   simp[Qc,aM]
  have M:Qj 31 s=(decide (s.length%2=1)&&decide (1<=s.length/2)&&decide (s.length/2<=16)&&decide (s.headD 0=2)&&Qk ((s.drop 1).take (s.length/2))&&decide (s.getD (s.length/2+1) 0=2)&&Qk (s.drop (s.length/2+2))):=by
   have e:Qj 31 s=(decide (3<=s.length)&&decide (s.length%2=1)&&decide (ek s.length<=16)&&Qw s (RZ s.length)):=by simp[Qj,aM]
   rw[e];by_cases p:3<=s.length
   .by_cases o:s.length%2=1
    .rw[MC s p o,pZ _ aa];have t1:1<=s.length/2:=aa;have t2:decide ((((s.length-1)/2:Nat):Int)<=16)=decide (s.length/2<=16):=by
      rw[pT];omega
     rw[t2];simp only[mD p,mD o,mD t1,ev,nS]
    .simp only[mC o,gR]
   .have p2:decide (3<=s.length)=false:=mC p;rw[p2];simp only[gN]
    symm
    by_cases o:s.length%2=1
    .have:¬1<=s.length/2:=by omega
     simp only[mC this,gR]
    .simp only[mC o,gN]
  rw[M,J,e3];generalize (decide (s.length%2=1)&&decide (1<=s.length/2)&&decide (s.length/2<=16)&&decide (s.headD 0=2)&&Qk ((s.drop 1).take (s.length/2))&&decide (s.getD (s.length/2+1) 0=2)&&Qk (s.drop (s.length/2+2)))=v;cases QH 31 j<;>cases v<;>simp[QS,Qi]
theorem ME(n:Nd){s:List Int}(J:Qj n.op s=true)(j:∀x∈s,1<=x/\x<=3):1<=QS n s/\QS n s<=3:=by
 unfold QS;by_cases I:n.op=22
 .rw[af aa,af aa,az I];have o:s.length=3:=by
   unfold Qj at J;rw[I]at J;have:aM 22=(3,true):=bA;rw[this]at J;simp only[kW,cC]at J;by_cases e:(0:Int)<=3/\(3:Int)≠s.length
   .rw[az e]at J;cases J
   .omega
  obtain⟨a,b,c,rfl⟩:=kG o;exact j b aA
 .split
  .omega
  .split
   .omega
   .split
    .omega
    .split
     .omega
     .omega
theorem sh{i:Nat}{g:List Int}(hr:∀j,g.getD j 0=0\/1<=g.getD j 0/\g.getD j 0<=3):∀{Z s:List Int},Rf i g Z=some s->∀x∈s,1<=x/\x<=3
 |[],s,h,x,C=>by cases h;simp at C
 |a::Z,s,h,x,C=>by
  rw[Rf]at h;split at h
  .cases h
  .rename_i c;obtain⟨t,o,rfl⟩:=jt.1 h;rcases gJ.1 C with rfl|C
   .rcases hr a.toNat with e|e
    .omega
    .exact e
   .exact sh hr o x C
theorem MF{l:List Nd}{i:Nat}{g:List Int}(hr:∀j,g.getD j 0=0\/1<=g.getD j 0/\g.getD j 0<=3):Rq l i g=0\/1<=Rq l i g/\Rq l i g<=3:=by
 unfold Rq;split
 .left;rfl
 .split
  .left;rfl
  .rename_i n m s K;split
   .rename_i c;rw[dn]at c
    right;exact ME _ c.1 (sh hr K)
   .left;rfl
theorem va(l:List Nd):∀(i j:Nat),(Qb l i).getD j 0=0\/1<=(Qb l i).getD j 0/\(Qb l i).getD j 0<=3
 |0,j=>by left;simp[Qb]
 |i+1,j=>by
  by_cases h:j<i+1
  .rw[nB l h];exact MF (va l j)
  .left
   rw[cN,lf kq];rfl
theorem MG{l:List Nd}{i:Nat}{g:List Int}(hr:∀j,g.getD j 0=0\/1<=g.getD j 0/\g.getD j 0<=3)(h:Rq l i g=3):∃m:Nat,Sp l i=2*(m:Int)+1/\1<=m/\m<=16:=by
 unfold Rq at h;split at h
 .cases h
 .rename_i n Z;split at h
  .cases h
  .rename_i s K;split at h
   .rename_i c;rw[dn]at c;have V:=jT K;have U:=sh hr K;have c1:=c.1;have F:n.op=31:=by
     by_cases e:n.op=31
     .exact e
     .exfalso;unfold QS at h;rw[af e]at h;split at h
      .omega
      .split at h
       .rename_i I;unfold Qj at c1;rw[I]at c1;have:aM 22=(3,true):=bA;rw[this]at c1;simp only[kW,cC]at c1;by_cases e:(0:Int)<=3/\(3:Int)≠s.length
        .rw[az e]at c1;cases c1
        .obtain⟨a,b,c,rfl⟩:=kG (s:=s) aa;have z:b=3:=h;subst z;simp[Qw,QO]at c1
       .split at h
        .omega
        .split at h<;>omega
    rw[F]at c1;simp only[Qj,aM]at c1;simp at c1;have c2:=c1.1;have J:=c2.1.1;have O:=c2.1.2;have Y:=c2.2;rw[pZ _ aa]at Y;refine⟨s.length/2,?_,aa,aa⟩;unfold Sp;rw[cY,Z];simp only;omega
   .cases h
theorem MH{l:List Nd}{i:Nat}(F:i<=l.length):u7 l i (Qb l i)=Rq l i (Qb l i):=by
 unfold u7 Rq;cases m:l[i]? with
 |none=>rfl
 |some n=>
  simp only;cases K:Rf i (Qb l i) n.kids with
  |none=>rfl
  |some s=>
   simp only;refine(MD (jT K) (sh (va l i) K) fun o Z=>?_).symm;have I:=jT K;cases j:n.kids with
   |nil=>
    rw[j]at I K;cases K;simp at o
   |cons k U=>
    rw[j]at K;have V:=nC K k et;rw[Rf]at K;split at K
    .cases K
    .obtain⟨t,Y,rfl⟩:=jt.1 K;rw[pz]at o⊢;obtain⟨k,rfl⟩:=cX V.1;rw[cY,nB l aa]at o;exact MG (va l k) o
end Go.Ab
namespace Go.Proofs.YtljebeflbbgibaaGreat
set_option maxRecDepth 20000
open Go Go.Ab
section
def tyR3b.tyF:=ac @cZ (ac @jK (ac @pR (ac @nM (ac @nN (ac @r6 (@dr))))))
open tyR3b
def jS(x:Ex):List AV:=[.agg x.cells]
theorem vb(x y:Ex)(h:jS x=jS y):x=y:=by simp only[jS,dz,AV.agg.injEq,a7]at h;exact Ex.inj h
mutual
def S0:St->Nat
 | .mk _ _ _ _ _ _ _ A C=>1+Te A+Te C
def Te:List St->Nat
 |[]=>0
 |x::l=>S0 x+Te l
end
mutual
def SN:St->Nat
 | .mk k _ _ _ _ _ _ A C=>(if k=4 then 1 else 0)+Tf A+Tf C
def Tf:List St->Nat
 |[]=>0
 |x::l=>SN x+Tf l
end
mutual
def Sk:St->Nat->Nat
 | .mk _ _ _ _ _ _ _ A C,d=>max d (max (Tg A (d+1)) (Tg C (d+1)))
def Tg:List St->Nat->Nat
 |[],_=>0
 |x::l,d=>max (Sk x d) (Tg l d)
end
theorem Rr{z:Int}(i:-9223372036854775808<=z)(g:z<9223372036854775808):IntKind.wrap .i64 z=z:=o9 _ aa
end
section
def tyI1.tyF:=ac @cZ (ac @dK (@jE))
open tyI1
noncomputable def zB:{c:SC // aB 31 (Tryz.f191.body.getD .skip)=c}:=by
 refine⟨?_,?_⟩;rotate_left
 .simp only[Tryz.f191,bh,aB,Qh,Qe,Qm,Qn,Nat.blt,Nat.ble];rfl
noncomputable def zC:{c:SC // aB 6 (Tryz.f148.body.getD .skip)=c}:=by
 refine⟨?_,?_⟩;rotate_left
 .simp only[Tryz.f148,bh,aB,Qh,Qe,Qm,Qn,Nat.blt,Nat.ble];rfl
noncomputable def zD:{c:SC // aB 22 (Tryz.f194.body.getD .skip)=c}:=by
 refine⟨?_,?_⟩;rotate_left
 .simp only[Tryz.f194,bh,aB,Qh,Qe,Qm,Qn,Nat.blt,Nat.ble];rfl
noncomputable def zE:{c:SC // aB 21 (Tryz.f192.body.getD .skip)=c}:=by
 refine⟨?_,?_⟩;rotate_left
 .simp only[Tryz.f192,bh,aB,Qh,Qe,Qm,Qn,Nat.blt,Nat.ble];rfl
noncomputable def zF:{c:SC // aB 21 (Tryz.f193.body.getD .skip)=c}:=by
 refine⟨?_,?_⟩;rotate_left
 .simp only[Tryz.f193,bh,aB,Qh,Qe,Qm,Qn,Nat.blt,Nat.ble];rfl
def cU(op:Int):AV:=.tup [.int .i64 (aM op).1,.bool (aM op).2]
theorem zG(op:Int):Ri (cU op):=.tup (.cons (.int _ _) (.cons (.bool _) .nil))
theorem MI(ρ:Nat->Int)(op:Int):aX Tryz.prog ρ 191 [.int .i64 op] (cU op):=Q7 fit (pls:=pls) (l:=[]) trivial (.cons (.int _ _) .nil) (zG op) (by
 have L:=RO 191;refine P4 (M:=31) (rs:=[.tmp 2,.tmp 3]) (L.call _) L.ice L.froz Tryz.func191 rfl rfl zB.2 rfl ?_;dsimp only[zB,PZ,Nat.reduceAdd];repeat' (first
  |(apply PO ?_;clear hK K)|apply Rx.o ?_|(apply cK (fun A j=>?_) (fun A j=>?_)<;>try(cases A;done))|(apply a6 (fun z i=>?_) (fun z i=>?_)<;>try(cases z;done))|apply aj ?_|(apply PP fun K hK=>?_)|apply ay ?_|apply PR ?_|apply aq ?_)
 all_goals
  refine⟨eI,_,da,?_⟩;try simp only[PT]
  first
  |(simp_all[cU,aM];done)
  |(unfold cU aM;rw[af aa,af aa,af aa,af aa,af aa,af aa];done))
theorem vf(n:Nat):(0:Int)<=ek n/\ek n<=n:=by
 by_cases h:n=0
 .subst h;decide
 .rw[pZ n aa];omega
theorem MJ(ρ:Nat->Int)(n:Nat)(m:n<2^60):aX Tryz.prog ρ 148 [.int .i64 n] (.int .i64 (ek n)):=Q7 fit (pls:=pls) (l:=[]) trivial (.cons (.int _ _) .nil) (.int _ _) (by
 have L:=RO 148;have I:(2:Int)≠0:=bA;have Z:IntKind.wrap .i64 ((n:Int)-1)=(n:Int)-1:=Rr aa aa;refine P4 (M:=6) (rs:=[.tmp 2]) (L.call _) L.ice L.froz Tryz.func148 rfl rfl zC.2 rfl ?_;dsimp only[zC,PZ,Nat.reduceAdd];repeat' (first
  |(apply PO ?_;clear hK K)|apply Rx.o ?_|apply aj ?_|(apply PP fun K hK=>?_)|apply aq ?_)
 all_goals (refine⟨eI,_,P0,?_⟩;try simp only[PT])
 rw[ek];rw[Rr (by have:=(vf n).1;unfold ek at this;omega) (by have:=(vf n).2;unfold ek at this;omega)])
theorem vg(H:Hp)(a b c:Int):Rs Tryz.prog H 23 3 [(0,.int .i64 a),(1,.int .i64 b),(2,.int .i64 c)]=some (.sl H.next 0 3 1,H.alloc (.cells [.int .i64 a,.int .i64 b,.int .i64 c] 0 true)):=ad
theorem MK(H:Hp)(a b:Int):Rs Tryz.prog H 23 2 [(0,.int .i64 a),(1,.int .i64 b)]=some (.sl H.next 0 2 1,H.alloc (.cells [.int .i64 a,.int .i64 b] 0 true)):=ad
theorem jU(H:Hp)(a:Int):Rs Tryz.prog H 23 1 [(0,.int .i64 a)]=some (.sl H.next 0 1 1,H.alloc (.cells [.int .i64 a] 0 true)):=ad
theorem ML(ρ:Nat->Int)(op:Int):aX Tryz.prog ρ 194 [.int .i64 op] (Qg (QO op)):=SY (m:=3) (cfg:=PU pls []) fit (gL ρ) (fun f Y r h=>by simp[PU,QT]at h) (.cons (.int _ _) .nil) (by
 have L:=RO 194;refine P4 (M:=22) (rs:=[.tmp 2]) (L.call _) L.ice L.froz Tryz.func194 rfl rfl zD.2 rfl ?_;dsimp only[zD,PZ,Nat.reduceAdd];have Z:=@vg;have A:=@MK;have J:=@jU;repeat' (first
  |(apply PO ?_;clear hK K)|apply Rx.o ?_|(apply a6 (fun z i=>?_) (fun z i=>?_)<;>try(cases z;done))|apply aj ?_|(apply PP fun K hK=>?_)|apply ay ?_|apply PR ?_|apply aq ?_)
 all_goals
  all_goals (refine⟨eI,_,P0,?_⟩;try simp only[PT])
  simp_all[QO];rfl)
theorem MM(s w:List Int)(i:Nat)(F:i<s.length)(I:s.length<=w.length):Qw (s.drop i) (w.drop i)=(decide (s.getD i 0=w.getD i 0)&&Qw (s.drop (i+1)) (w.drop (i+1))):=by
 rw[jb F,jb (l:=w) aa,Qw];simp[cN,a1 F,a1 (show i<w.length by omega)]
def mF(x:List Int×List Int):List AV:=[Qg x.1,Qg x.2]
theorem mG{a b:List Int}(h:Qg a=Qg b):a=b:=by
 simp only[Qg,AV.lst.injEq]at h;exact ym h
theorem MN(x y:List Int×List Int)(h:mF x=mF y):x=y:=by
 simp only[mF,dz,a7]at h;exact iK (mG h.1) (mG h.2)
theorem MO(ρ:Nat->Int)(x:List Int×List Int)(o:x.1.length<=x.2.length/\x.2.length<2^60):aX Tryz.prog ρ 192 (mF x) (.bool (Qw x.1 x.2)):=Q7 fit (pls:=pls) (l:=[]) trivial (.cons (Sv _) (.cons (Sv _) .nil)) (.bool _) (by
 obtain⟨s,w⟩:=x;obtain⟨A,z⟩:=o;simp only[]at A z;have C:=RO 192;rw[mF];simp only[];refine P4 (M:=21) (rs:=[.tmp 4]) (C.call _) C.ice C.froz Tryz.func192 rfl rfl zE.2 rfl ?_;dsimp only[zE,PZ,Nat.reduceAdd];repeat' (first
  |(apply PO ?_;clear hK K)|apply Rx.o ?_|apply aj ?_|(apply PP fun K hK=>?_)|apply ay ?_|fail)
 refine Rk [0,1] [] 5 s.length (fun i E H=>Qw s w=Qw (s.drop i) (w.drop i)) eE aA ?_;rintro i E m j L J I g F;(try simp only[QK,Qs,a7,P7,Qy,Nat.reduceBEq, *]at L);(try simp only[Qs, *]at J);(try simp only[Re,]at I);repeat' (first
  |(apply PO ?_;clear hK K)|apply Rx.o ?_|(apply a6 (fun z Z=>?_) (fun z Z=>?_)<;>try(cases z;done))|apply aj ?_|(apply PP fun K hK=>?_)|(apply PQ 4 [(3,9),(7,9)] fun K hK=>?_)|(apply P5 ?_;try intro _)|apply aS ?_|apply ay ?_|apply PR ?_|apply aq ?_|apply PX ?_)
 .have Y:i<s.length:=by simpa using z
  have V:s[i]?=some s[i]:=a1 Y;have U:w[i]?=some w[i]:=a1 aa;have O:=MM s w i Y A;repeat' (first
   |(apply PO ?_;clear hK K)|apply Rx.o ?_|(apply a6 (fun z Z=>?_) (fun z Z=>?_)<;>try(cases z;done))|apply aj ?_|(apply PP fun K hK=>?_)|(apply P5 ?_;try intro _)|(apply P6 ?_ ?_<;>clear hK K)|apply aS ?_|apply PR ?_|apply aq ?_|fail)
  .exact eK
  .all_goals (refine⟨eI,_,P0,?_⟩;try simp only[PT])
   rw[F,O,cN,cN,V,U];simp_all
  .refine⟨aa,P1,P1,QN,nR,?_⟩;rw[F,O,cN,cN,V,U];simp_all
 .all_goals (refine⟨eI,_,P0,?_⟩;try simp only[PT])
  rw[F,show i=s.length by simp at z;omega,lp];rfl)
noncomputable def vh:En:=⟨191,false,bG (fun _=>True) (fun n:Int=>[.int .i64 n]) cU⟩
theorem MP(ρ:Nat->Int):QM Tryz.prog ρ vh:=QP fun n _=>MI ρ n
theorem p7(x y:Int)(h:([.int .i64 x]:List AV)=[.int .i64 y]):x=y:=iE
def mH(n:Nat):List AV:=[.int .i64 n]
theorem zH(x y:Nat)(h:mH x=mH y):x=y:=by
 simp only[mH,dz,AV.int.injEq,a7,fJ]at h;omega
noncomputable def nW:En:=⟨148,false,bG (fun n=>n<2^60) mH fun n=>.int .i64 (ek n)⟩
theorem zI(ρ:Nat->Int):QM Tryz.prog ρ nW:=QP fun n m=>MJ ρ n m
theorem vi{l:List En}(I:∀C,QT l 148 C=nW.sp C)(n:Nat)(m:n<2^60)(H:Hp):P2 Tryz.prog (PU pls l) 148 [.int .i64 n] H fun v H'=>v=.int .i64 (ek n)/\H'=H:=
 Q0 (enc:=mH) (ok:=fun n=>n<2^60) (out:=fun n=>.int .i64 (ek n)) zH (x:=n) (I _) m
noncomputable def vj:En:=⟨194,false,bG (fun _=>True) (fun n:Int=>[.int .i64 n]) fun n=>Qg (QO n)⟩
theorem MQ(ρ:Nat->Int):QM Tryz.prog ρ vj:=QP fun n _=>ML ρ n
def nX(x:List Int×List Int):Prop:=x.1.length<=x.2.length/\x.2.length<2^60
noncomputable def vk:En:=⟨192,false,bG nX mF fun x=>.bool (Qw x.1 x.2)⟩
theorem MR(ρ:Nat->Int):QM Tryz.prog ρ vk:=QP fun x C=>MO ρ x C
theorem MT(ρ:Nat->Int)(n:Nat)(h3:3<=n)(hn:n<2^30):aX Tryz.prog ρ 193 [.int .i64 n] (Qg (RZ n)):=SY (m:=3) (cfg:=PU pls [nW]) fit (gL ρ) (dG.look ⟨zI ρ,trivial⟩) (.cons (.int _ _) .nil) (by
 have C:Plain (PU pls [nW]) 193:=Ra (fun _=>rfl) rfl;have hlv:=pZ n aa;refine P4 (M:=21) (rs:=[.tmp 2]) (C.call _) C.ice C.froz Tryz.func193 rfl rfl zF.2 rfl ?_;dsimp only[zF,PZ,Nat.reduceAdd];repeat' (first
  |(apply PO ?_;clear hK K)|apply Rx.o ?_|apply aj ?_|(apply PP fun K hK=>?_)|apply ay ?_|fail)
 have L:∀i,(List.replicate i (1:Int)).length=i:=fun i=>pS;have V:(PU pls [nW]).keep 193=false:=rfl;refine Rk [0,2] [] 4 n (fun i E H=>∃v,E.at 3=v/\jR H v (List.replicate i 1) 0) eE ⟨.nilS,eE,.inl ⟨rfl,rfl⟩⟩ ?_;rintro i E Y hi U O J hsI ⟨v,k3,I⟩;(try simp only[QK,Qs,a7,P7,Qy,Nat.reduceBEq, *]at U);(try simp only[Qs, *]at O);(try simp only[Re,]at J);repeat' (first
  |(apply PO ?_;clear hK K)|apply Rx.o ?_|(apply a6 (fun z Z=>?_) (fun z Z=>?_)<;>try(cases z;done))|apply aj ?_|(apply PP fun K hK=>?_)|apply ay ?_|apply PR ?_|apply PX ?_)
 .have hlt:i<n:=by simpa using z
  have gh0:=@jU;repeat' (first
   |apply Rx.o ?_|fail)
  have A:jR (Y.alloc (.cells [.int .i64 1] 0 true)) v (List.replicate i 1) 0:=I.keep (dD _) fun k hk=>by rw[P8,af (by have:=(I.n.lt hk).2;omega)]
  obtain⟨v5,H5,a5,s5,n5,f5,o5⟩:=My (r:=Y.next) (imm:=0) 1 A (ca _) eX (by rw[L];omega);refine mg eV eV (by rw[V];exact a5) ?_;repeat' (first
   |(apply PO ?_;clear hK K)|apply Rx.o ?_|(apply PP fun K hK=>?_)|fail)
  refine⟨aa,P1,P1,QN,(by simp only[P7,Nat.reduceBEq, *];exact Su (n:=n) aa aa),?_⟩;exact⟨v5,eE,.inr (by rw[List.replicate_succ'];exact s5)⟩
 .have o:i=n:=by simp at z;omega
  subst o;rcases I with⟨_,h⟩|⟨r,F,h2,_,h4⟩
  .have:=ki List.length h;rw[L]at this;simp at this;omega
  subst F;rw[L]at k3;have j:((List.replicate i (1:Int)).map (AV.int .i64)).length=i:=aA;generalize g:(List.replicate i (1:Int)).map (AV.int .i64)=cs at h2 j;have hi1:0<i:=aa;have hi2:(i-1)/2+1<i:=aa;have e1:IntKind.wrap .i64 (((i-1)/2:Nat)+1)=(((i-1)/2+1:Nat):Int):=Rr aa aa;repeat' (first
   |apply Ry.o ?_|(apply bD ?_;first|refine Rx.k (vi (fun _=>rfl) _ aa _) ?_)|fail)
  refine jD eV eV (pY h2 aa 2) ?_;repeat' (first
   |apply Ry.o ?_|fail)
  refine jD eV eV (pY dQ (by rw[me];omega) 2) ?_;repeat' (first
   |(apply PO ?_;clear hK K)|apply Rx.o ?_|apply aj ?_|(apply PP fun K hK=>?_)|apply aq ?_|fail)
  all_goals (refine⟨eI,_,P0,?_⟩;try simp only[PT])
  have hll:(RZ i).length=i:=by simp[RZ]
  have z:dx ((Y.set r (.cells (cs.set 0 (.int .i64 2)) 0 true)).set r (.cells ((cs.set 0 (.int .i64 2)).set ((i-1)/2+1) (.int .i64 2)) 0 true)) (.sl r 0 (RZ i).length 1) (RZ i) 0:=⟨r,0,rfl,by
   rw[a9,az rfl,RZ,lq,lq,g,show(ek i+1).toNat=(i-1)/2+1 by omega],ca _,ca _,h4⟩
  have:=z.iceV 1;rw[hll]at this;exact this)
noncomputable def vl:En:=⟨193,false,bG (fun n=>3<=n/\n<2^30) mH fun n=>Qg (RZ n)⟩
theorem MU(ρ:Nat->Int):QM Tryz.prog ρ vl:=QP fun n m=>MT ρ n m.1 m.2
end
section
def tyI2.tyF:=ac @dr (ac @cZ (ac @dK (ac @ey (ac @ez (@pC)))))
open tyI2
noncomputable def zJ:{c:SC // aB 53 (Tryz.f168.body.getD .skip)=c}:=by
 refine⟨?_,?_⟩;rotate_left
 .simp only[Tryz.f168,bh,aB,Qh,Qe,Qm,Qn,Nat.blt,Nat.ble];rfl
noncomputable def gU:{c:SC // aB 106 (Tryz.f167.body.getD .skip)=c}:=by
 refine⟨?_,?_⟩;rotate_left
 .simp only[Tryz.f167,bh,aB,Qh,Qe,Qm,Qn,Nat.blt,Nat.ble];rfl
noncomputable def vm:List En:=[vh,nW,vj,vk,vl]
theorem zK(ρ:Nat->Int):dG Tryz.prog ρ vm:=⟨MP ρ,zI ρ,MQ ρ,MR ρ,MU ρ,trivial⟩
abbrev Qz(l:List Nd):AV:=.lst (l.map Nd.cells)
theorem Sq(l:List Nd):Ri (Qz l):=.map fun x _=>x.pure
theorem mI{a b:List Nd}(h:Qz a=Qz b):a=b:=by
 simp only[Qz,AV.lst.injEq]at h;exact rZ (fun _ _ _=>nI) h
def p8(x:List Nd×Nd):Prop:=x.2.op=25->∃(k:Nat) (m:Nd),x.2.kids[0]?=some (k:Int)/\x.1[k]?=some m/\m.kids.length<2^60
def mJ(x:List Nd×Nd):List AV:=[Qz x.1,.agg x.2.cells]
theorem zL(x y:List Nd×Nd)(h:mJ x=mJ y):x=y:=by
 simp only[mJ,dz,AV.agg.injEq,a7]at h;exact iK (mI h.1) (nI h.2)
theorem MV(ρ:Nat->Int)(x:List Nd×Nd)(C:p8 x):aX Tryz.prog ρ 168 (mJ x) (.bool (QE x.1 x.2)):=Q7 fit (pls:=pls) (zK ρ) (.cons (Sq _) (.cons (.agg (nH _)) .nil)) (.bool _) (by
 obtain⟨l,n⟩:=x;have L:Plain (PU pls vm) 168:=Ra (fun _=>rfl) rfl;unfold p8 at C;rw[mJ];simp only[]at C⊢;refine P4 (M:=53) (rs:=[.tmp 4]) (L.call _) L.ice L.froz Tryz.func168 rfl rfl zJ.2 rfl ?_;dsimp only[zJ,PZ,Nat.reduceAdd];repeat' (first
  |(apply PO ?_;clear hK K)|apply Rx.o ?_|(apply cK (fun A j=>?_) (fun A j=>?_)<;>try(cases A;done))|(apply a6 (fun z Z=>?_) (fun z Z=>?_)<;>try(cases z;done))|apply aj ?_|(apply PP fun K hK=>?_)|apply ay ?_|apply PR ?_|apply aq ?_)
 all_goals (first|(refine⟨eI,_,P0,?_⟩;(try simp only[PT]);clear C;simp_all[QE,Q1]<;>omega;done)|skip)
 all_goals trace_state
 have Y:n.op=25:=dj;obtain⟨k,m,i,g,o⟩:=C Y;have V:n.kids.headD 0=k:=by
  cases U:n.kids with
  |nil=>rw[U]at i;simp at i
  |cons a b=>rw[U]at i;simpa using i
 have O:Sp l (n.kids.headD 0)=m.kids.length:=by rw[V,Sp,cY,g]
 have J:=vf m.kids.length;have I:IntKind.wrap .i64 (ek m.kids.length-1)=ek m.kids.length-1:=Rr aa aa;repeat' (first
  |(apply PO ?_;clear hK K)|apply Ry.o ?_|(apply bD ?_;first|refine Rx.k (vi (fun _=>rfl) _ aa _) ?_)|(apply aU (fun A j=>?_) (fun A j=>?_)<;>try(cases A;done))|apply aj ?_|(apply PP fun K hK=>?_)|apply aq ?_)
 all_goals (first|(refine⟨eI,_,P0,?_⟩;(try simp only[PT]);clear C;simp_all[QE,Q1]<;>omega;done)|skip)
 all_goals trace_state)
noncomputable def zM:En:=⟨168,true,bG p8 mJ fun x=>.bool (QE x.1 x.2)⟩
theorem MW(ρ:Nat->Int):QM Tryz.prog ρ zM:=QP fun x C=>MV ρ x C
theorem zN(a:Int)(s:List Int):RD Tryz.prog 23 (.lst ((a::s).map fun n=>[AV.int .i64 n])) (some (.int .i64 1)) none=some (.lst (s.map fun n=>[AV.int .i64 n])):=by
 have Z:(1:Int)=Int.ofNat 1:=rfl;simp only[RD,Tryz.underlying23,fy,Rl];rw[az ⟨aA,aC _⟩];rw[fF aA];cases s with
 |nil=>rfl
 |cons b s=>rfl
theorem MX(op:Int)(z:0<=(aM op).1):(aM op).1<=(QO op).length:=by
 unfold aM at z⊢;unfold QO;repeat' split
 all_goals (first|(simp;done)|omega|(simp_all;done))
def ly(x:Nd×List Int):List AV:=[.agg x.1.cells,Qg x.2]
theorem MY(x y:Nd×List Int)(h:ly x=ly y):x=y:=by
 simp only[ly,dz,AV.agg.injEq,a7]at h;exact iK (nI h.1) (mG h.2)
theorem mK{l:List En}(I:∀C,QT l 191 C=vh.sp C)(n:Int)(H:Hp):P2 Tryz.prog (PU pls l) 191 [.int .i64 n] H fun v H'=>v=cU n/\H'=H:=
 Q0 (enc:=fun n:Int=>[.int .i64 n]) (ok:=fun _=>True) (out:=cU) p7 (x:=n) (I _) trivial
theorem zO{l:List En}(I:∀C,QT l 194 C=vj.sp C)(n:Int)(H:Hp):P2 Tryz.prog (PU pls l) 194 [.int .i64 n] H fun v H'=>v=Qg (QO n)/\H'=H:=
 Q0 (enc:=fun n:Int=>[.int .i64 n]) (ok:=fun _=>True) (out:=fun n=>Qg (QO n)) p7 (x:=n) (I _) trivial
theorem MZ{l:List En}(I:∀C,QT l 193 C=vl.sp C)(n:Nat)(m:3<=n/\n<2^30)(H:Hp):P2 Tryz.prog (PU pls l) 193 [.int .i64 n] H fun v H'=>v=Qg (RZ n)/\H'=H:=
 Q0 (enc:=mH) (ok:=fun n=>3<=n/\n<2^30) (out:=fun n=>Qg (RZ n)) zH (x:=n) (I _) m
theorem vn{l:List En}(I:∀C,QT l 192 C=vk.sp C)(s w:List Int)(h:nX (s,w))(H:Hp):P2 Tryz.prog (PU pls l) 192 [Qg s,Qg w] H fun v H'=>v=.bool (Qw s w)/\H'=H:=
 Q0 (enc:=mF) (ok:=nX) (out:=fun x=>.bool (Qw x.1 x.2)) MN (x:=(s,w)) (I _) h
theorem gW(a b:AV):Ab.extract (.tup [a,b]) 0=some a:=rfl
theorem gX(a b:AV):Ab.extract (.tup [a,b]) 1=some b:=rfl
theorem M0(s:List Int):Qj 31 s=(decide ((3:Int)<=s.length)&&decide ((s.length:Int).tmod 2=1)&&decide (ek s.length<=16)&&Qw s (RZ s.length)):=by
 have o:(s.length:Int).tmod 2=((s.length%2:Nat):Int):=y0;have Z:decide ((s.length:Int).tmod 2=1)=decide (s.length%2=1):=by rw[o];exact pT.2 aa
 have z:decide ((3:Int)<=s.length)=decide (3<=s.length):=pT.2 aa;rw[Z,z];rfl
theorem si(a:Int)(s:List Int):Qj 30 (a::s)=(!decide ((7:Int)<((s.length+1:Nat):Int))&&decide (a=2)&&s.all fun x=>decide (x=1)):=by
 have Z:(!decide ((7:Int)<((s.length+1:Nat):Int)))=decide ((a::s).length<=7):=by
  rw[<-decide_not];exact pT.2 (by simp only[em];omega)
 have z:decide (1<=(a::s).length)=true:=aA;rw[Z];show(decide (1<=(a::s).length)&&decide ((a::s).length<=7)&&decide (a=2)&&s.all fun x=>decide (x=1))=_;rw[z,ev]
theorem M1(a b c:Int):Qj 22 [a,b,c]=if b=2 then (decide (a=1)&&decide (c=2))else Qw [a,b,c] [1,1,1]:=by
 have e:Qj 22 [a,b,c]=if (22:Int)=22/\b=2 then (decide (a=1)&&decide (c=2))else Qw [a,b,c] [1,1,1]:=rfl
 rw[e];simp
theorem M2{op:Int}(s:List Int)(h:(aM op).2=false):Qj op s=false:=by rw[Qj,az h]
theorem vo{op:Int}{s:List Int}(h:0<=(aM op).1)(g:(aM op).1≠s.length):Qj op s=false:=by
 unfold Qj;split
 .rfl
 .rw[az ⟨h,g⟩]
theorem M3{op:Int}{s:List Int}(h:(aM op).2=true)(g:(aM op).1=s.length)(i:op≠31)(o:op≠30)(U:op≠22):Qj op s=Qw s (QO op):=by
 unfold Qj;rw[af (by rw[h];simp),af (fun k=>k.2 g),af i,af o,af (fun k=>U k.1)]
theorem zP(op:Int):(QO op).length<=3:=by
 unfold QO;repeat' split
 all_goals decide
theorem sj{op:Int}(i:op≠31)(o:op≠30):0<=(aM op).1:=by
 unfold aM;repeat' split
 all_goals (first|decide|omega)
theorem M4(ρ:Nat->Int)(x:Nd×List Int)(hx:x.2.length<2^30):aX Tryz.prog ρ 167 (ly x) (.bool (Qj x.1.op x.2)):=Q7 fit (pls:=pls) (zK ρ) (.cons (.agg (nH _)) (.cons (Sv _) .nil)) (.bool _) (by
 obtain⟨⟨C,imm,kids⟩,s⟩:=x;have L:Plain (PU pls vm) 167:=Ra (fun _=>rfl) rfl;rw[ly];simp only[Nd.cells]at hx⊢;have hq:(2:Int)≠0:=bA;by_cases J:C=31
 .subst J;have hv:cU 31=.tup [.int .i64 (-1),.bool true]:=rfl;have O:nX (s,RZ s.length):=⟨by simp[RZ],by simp[RZ];omega⟩;refine P4 (M:=106) (rs:=[.tmp 4]) (L.call _) L.ice L.froz Tryz.func167 rfl rfl gU.2 rfl ?_;dsimp only[gU,PZ,Nat.reduceAdd];have Y:=@gW;have V:=@gX;repeat' (first
   |(apply PO ?_;clear hK K)|apply Ry.o ?_|(apply bD ?_;first|refine Rx.k (mK (fun _=>rfl) _ _) ?_|refine Rx.k (vi (fun _=>rfl) _ aa _) ?_|refine Rx.k (MZ (fun _=>rfl) _ aa _) ?_|refine Rx.k (vn (fun _=>rfl) _ _ O _) ?_)|(apply aU (fun A j=>?_) (fun A j=>?_)<;>try(cases A;done))|(apply aH (fun z Z=>?_) (fun z Z=>?_)<;>try(cases z;done))|apply aj ?_|(apply PP fun K hK=>?_)|apply ay ?_|apply PR ?_|apply aq ?_|fail)
  all_goals
   refine⟨eI,_,da,?_⟩;try simp only[PT]
   rw[M0];(try simp only[fI,ig]at *);simp only[ *,ii,gR,ev,f0,]
 by_cases I:C=30
 .subst I;have hv:cU 30=.tup [.int .i64 (-1),.bool true]:=rfl;cases s with
  |nil=>
   refine P4 (M:=106) (rs:=[.tmp 4]) (L.call _) L.ice L.froz Tryz.func167 rfl rfl gU.2 rfl ?_;dsimp only[gU,PZ,Nat.reduceAdd];have Y:=@gW;have V:=@gX;repeat' (first
    |(apply PO ?_;clear hK K)|apply Ry.o ?_|(apply bD ?_;first|refine Rx.k (mK (fun _=>rfl) _ _) ?_)|(apply aU (fun A j=>?_) (fun A j=>?_)<;>try(cases A;done))|(apply aH (fun z Z=>?_) (fun z Z=>?_)<;>try(cases z;done))|apply aj ?_|(apply PP fun K hK=>?_)|apply ay ?_|apply PR ?_|apply aq ?_|fail)
   all_goals (refine⟨eI,_,P0,?_⟩;try simp only[PT])
   rfl
  |cons a s=>
   have hsl:=zN a s;simp only[em]at hx;refine P4 (M:=106) (rs:=[.tmp 4]) (L.call _) L.ice L.froz Tryz.func167 rfl rfl gU.2 rfl ?_;dsimp only[gU,PZ,Nat.reduceAdd];have Y:=@gW;have V:=@gX;repeat' (first
    |(apply PO ?_;clear hK K)|apply Ry.o ?_|(apply bD ?_;first|refine Rx.k (mK (fun _=>rfl) _ _) ?_)|(apply aU (fun A j=>?_) (fun A j=>?_)<;>try(cases A;done))|(apply aH (fun z Z=>?_) (fun z Z=>?_)<;>try(cases z;done))|apply aj ?_|(apply PP fun K hK=>?_)|apply ay ?_|apply PR ?_|apply aq ?_|fail)
   .all_goals (refine⟨eI,_,P0,?_⟩;try simp only[PT])
    rw[si];(try simp only[fI]at *);simp only[ *,fE,gR,f6,]
   .refine Rk [1,2,72,73] [] 74 s.length (fun i E H=>(s.all fun x=>decide (x=1))=(s.drop i).all fun x=>decide (x=1)) eE aA ?_;rintro i E H2 hi hcE hrH hnH hsI hJ;(try simp only[QK,Qs,a7,P7,Qy,Nat.reduceBEq, *]at hcE);(try simp only[Qs,Qy, *]at hrH);(try simp only[QA,Re,bZ]at hnH);repeat' (first
     |(apply PO ?_;clear hK K)|apply Rx.o ?_|(apply a6 (fun z Z=>?_) (fun z Z=>?_)<;>try(cases z;done))|apply aj ?_|(apply PP fun K hK=>?_)|apply ay ?_|apply PR ?_|apply aq ?_|apply PX ?_)
    .have o:i<s.length:=by simpa using z
     have hgx:s[i]?=some s[i]:=a1 o;have m:((s.drop i).all fun x=>decide (x=1))=(decide (s[i]=1)&&(s.drop (i+1)).all fun x=>decide (x=1)):=by rw[jb o,List.all_cons]
     repeat' (first
      |(apply PO ?_;clear hK K)|apply Rx.o ?_|(apply a6 (fun z Z=>?_) (fun z Z=>?_)<;>try(cases z;done))|apply aj ?_|(apply PP fun K hK=>?_)|apply PR ?_|apply aq ?_|fail)
     .all_goals (refine⟨eI,_,P0,?_⟩;try simp only[PT])
      rw[si,hJ,m];(try simp only[fI,ig]at *);simp only[ *,fE,gR,f0,f6,]
     .refine⟨aa,P1,P1,QN,nR,?_⟩;rw[hJ,m];(try simp only[ig]at *);simp only[*,ev,]
    .repeat' (first
      |(apply PO ?_;clear hK K)|fail)
     all_goals (refine⟨eI,_,P0,?_⟩;try simp only[PT])
     rw[show i=s.length by simp at z;omega,lp]at hJ;have hJ2:(s.all fun x=>decide (x=1))=true:=hJ;rw[si,hJ2];(try simp only[ig]at *);simp only[*,fE,f0,f6,]
   .all_goals (refine⟨eI,_,P0,?_⟩;try simp only[PT])
    rw[si];(try simp only[fI,ig]at *);simp only[*,iW,gN,gK,]
 have g:=sj J I;cases U:(aM C).2 with
 |false=>
  have hv:cU C=.tup [.int .i64 (aM C).1,.bool false]:=by rw[cU,U]
  refine P4 (M:=106) (rs:=[.tmp 4]) (L.call _) L.ice L.froz Tryz.func167 rfl rfl gU.2 rfl ?_;dsimp only[gU,PZ,Nat.reduceAdd];have Y:=@gW;have V:=@gX;repeat' (first
   |(apply PO ?_;clear hK K)|apply Ry.o ?_|(apply bD ?_;first|refine Rx.k (mK (fun _=>rfl) _ _) ?_)|apply Ry.gu ?_|(apply aU (fun A j=>?_) (fun A j=>?_)<;>try(cases A;done))|(apply aH (fun z Z=>?_) (fun z Z=>?_)<;>try(cases z;done))|apply aj ?_|(apply PP fun K hK=>?_)|apply aq ?_|fail)
  all_goals
   refine⟨eI,_,da,?_⟩;try simp only[PT]
   rw[M2 s U]
 |true=>
  by_cases F:(aM C).1=s.length
  .have hv:cU C=.tup [.int .i64 s.length,.bool true]:=by rw[cU,U,F]
   by_cases h22:C=22
   .subst h22;obtain⟨a,b,c,rfl⟩:=kG (s:=s) (by have e:(aM 22).1=3:=rfl;rw[e]at F;omega);have O:nX ([a,b,c],QO 22):=⟨aC _,by have:=zP 22;simp only[];omega⟩;refine P4 (M:=106) (rs:=[.tmp 4]) (L.call _) L.ice L.froz Tryz.func167 rfl rfl gU.2 rfl ?_;dsimp only[gU,PZ,Nat.reduceAdd];have Y:=@gW;have V:=@gX;repeat' (first
     |(apply PO ?_;clear hK K)|apply Ry.o ?_|(apply bD ?_;first|refine Rx.k (mK (fun _=>rfl) _ _) ?_|refine Rx.k (zO (fun _=>rfl) _ _) ?_|refine Rx.k (vn (fun _=>rfl) _ _ O _) ?_)|(apply aU (fun A j=>?_) (fun A j=>?_)<;>try(cases A;done))|(apply aH (fun z Z=>?_) (fun z Z=>?_)<;>try(cases z;done))|apply aj ?_|(apply PP fun K hK=>?_)|apply ay ?_|apply PR ?_|apply aq ?_|fail)
    all_goals
     refine⟨eI,_,da,?_⟩;try simp only[PT]
     rw[M1];first
     |(simp_all;done)
     |(rw[af dj];rfl)
   .have O:nX (s,QO C):=⟨by have:=MX C g;simp only[];omega,by have:=zP C;simp only[];omega⟩;have hl0:(0:Int)<=s.length:=aa;refine P4 (M:=106) (rs:=[.tmp 4]) (L.call _) L.ice L.froz Tryz.func167 rfl rfl gU.2 rfl ?_;dsimp only[gU,PZ,Nat.reduceAdd];have Y:=@gW;have V:=@gX;repeat' (first
     |(apply PO ?_;clear hK K)|apply Ry.o ?_|(apply bD ?_;first|refine Rx.k (mK (fun _=>rfl) _ _) ?_|refine Rx.k (zO (fun _=>rfl) _ _) ?_|refine Rx.k (vn (fun _=>rfl) _ _ O _) ?_)|(apply aU (fun A j=>?_) (fun A j=>?_)<;>try(cases A;done))|(apply aH (fun z Z=>?_) (fun z Z=>?_)<;>try(cases z;done))|apply aj ?_|(apply PP fun K hK=>?_)|apply ay ?_|apply PR ?_|apply aq ?_|fail)
    all_goals
     refine⟨eI,_,da,?_⟩;try simp only[PT]
     rw[M3 U F J I h22]
  .have hv:cU C=.tup [.int .i64 (aM C).1,.bool true]:=by rw[cU,U]
   refine P4 (M:=106) (rs:=[.tmp 4]) (L.call _) L.ice L.froz Tryz.func167 rfl rfl gU.2 rfl ?_;dsimp only[gU,PZ,Nat.reduceAdd];have Y:=@gW;have V:=@gX;repeat' (first
    |(apply PO ?_;clear hK K)|apply Ry.o ?_|(apply bD ?_;first|refine Rx.k (mK (fun _=>rfl) _ _) ?_)|(apply aU (fun A j=>?_) (fun A j=>?_)<;>try(cases A;done))|(apply aH (fun z Z=>?_) (fun z Z=>?_)<;>try(cases z;done))|apply aj ?_|(apply PP fun K hK=>?_)|apply aq ?_|fail)
   all_goals
    refine⟨eI,_,da,?_⟩;try simp only[PT]
    rw[vo g F])
end
end Go.Proofs.YtljebeflbbgibaaGreat
