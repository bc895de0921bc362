/- Parts: R3a, Strs, AbWk, AbCut, AbIc, Ints, Bytes, SpecI, SpecR, R3b, I1. -/
import Derived.Test.YtpbcimfiofmoeaaGreatMCG
set_option linter.unusedSimpArgs false
set_option linter.unusedVariables false
set_option linter.unusedSectionVars false
set_option linter.defProp false
set_option maxHeartbeats 32000000
namespace Go.Ab
set_option maxRecDepth 20000
open Go
theorem G7{P:Prop}(h:P:=by rw[List.drop_eq_getElem_cons Z];rfl):P:=h
theorem G8{P:Prop}(h:P:=by rw[List.drop_eq_getElem_cons Y];rfl):P:=h
theorem CR{P:Prop}(h:P:=by rw[K r ⟨_,rfl⟩];exact j):P:=h
theorem G9{P:Prop}(h:P:=by have:=List.length_pos_iff.2 z;omega):P:=h
theorem lM{P:Prop}(h:P:=by rw[Y];omega):P:=h
theorem sU{P:Prop}(h:P:=by simp[J]):P:=h
theorem iT{P:Prop}(h:P:=by rw[zkZ,if_pos rfl];rfl):P:=h
theorem nh{P:Prop}(h:P:=by simp only[zn0];omega):P:=h
theorem He{P:Prop}(h:P:=by rw[List.append_nil];exact Z):P:=h
theorem CS{P:Prop}(h:P:=by rw[Nat.ble_eq];omega):P:=h
theorem qS{P:Prop}(h:P:=by rw[V];omega):P:=h
theorem aE{P:Prop}(h:P:=by decide):P:=h
theorem sV{P:Prop}(h:P:=by rw[List.drop_eq_getElem_cons C];rfl):P:=h
theorem CT{P:Prop}(h:P:=by rw[I];exact a5):P:=h
theorem CU{P:Prop}(h:P:=by simp only[zk1,Nat.reduceBEq, *];exact zni (n:=s.length) ac ac):P:=h
theorem rL{P:Prop}(h:P:=by simp only[zk1,Nat.reduceBEq, *];exact zni (n:=l.length) ac ac):P:=h
theorem oX{P:Prop}(h:P:=by simp only[zk1,Nat.reduceBEq, *];exact zni (n:=p.funcs.length) ac ac):P:=h
theorem kE{P:Prop}(h:P:=by rw[Hp.get_set,if_neg ac]):P:=h
theorem zG{P:Prop}(h:P:=by rw[C5 _ ac];omega):P:=h
theorem CV{P:Prop}(h:P:=by rw[IntWalk.i64_in _ ac];omega):P:=h
theorem Hf{P:Prop}(h:P:=by simp only[zk1,Nat.reduceBEq, *];exact zni (n:=x.kids.length) ac ac):P:=h
theorem uj{P:Prop}(h:P:=by simp only[zk1,Nat.reduceBEq, *];exact zni (n:=x.length) ac ac):P:=h
def pZ:=@List.all_nil
def xp:=@Bool.and_eq_false_iff
def qT:=@List.any_cons
def xq:=@List.any_nil
def Hg:=@Bool.or_assoc
def mh:=@List.map_nil
def kF:=@Nat.le_of_eq
def vK:=@List.length_pos_iff
def Hh:=@List.replicate_succ
def zH:=@List.range_succ
def dx:=@List.getD_eq_getElem?_getD
def zI:=@List.headD_cons
def gy:=@Bool.false_and
def qU:=@List.length_replicate
def xr:=@List.getElem?_replicate
def CW:=@Bool.and_assoc
def CX:=@List.set_cons_zero
def Hk:=@List.set_cons_succ
def zJ:=@List.eq_of_mem_replicate
def gT:=@List.drop_length
def qV:=@Prod.ext
def Hl:=@List.replicate_succ'
def jd:=@List.length_set
end Go.Ab
namespace Go.Proofs.YtpbcimfiofmoeaaGreat
set_option maxRecDepth 20000
open Go Go.Ab
section
def tyR3a.tyF:=ad @cJ (ad @dd (ad @fx (ad @gY (ad @iQ (ad @fI (ad @em (ad @zms (ad @iR (ad @oQ (ad @ec (@en)))))))))))
open tyR3a
theorem zmQ(f:FuncId):Plain (zkY pls []) f:=⟨fun _=>rfl,rfl,rfl⟩
theorem zml{l:List En}{f:FuncId}(h1:∀M,zme l f M=none)(h2:jb l f=false):Plain (zkY pls l) f:=⟨h1,h2,rfl⟩
structure PlainA (cfg:Cfg) (f:FuncId) (args:List AV):Prop where
 call:cfg.call f args=none
 ice:cfg.ice f=false
 froz:cfg.froz f=false
theorem sW{Z:Type}{sz:Z->Nat}{ok:Z->Prop}{enc:Z->List AV}{out:Z->AV}(V:∀x y,enc x=enc y->x=y){f:FuncId}{l:List En}(x:Z):
 PlainA (zkY pls (⟨f,false,b7 (fun y=>ok y/\sz y<sz x) enc out⟩::l)) f (enc x):=by
 have K:Nat.beq f f=true:=Nat.beq_refl f;refine⟨?_,?_,rfl⟩
 .show zme _ f (enc x)=none;simp only[zme,K];exact G4 fun y hy e=>by rw[V _ _ e]at hy;exact Nat.lt_irrefl _ hy.2
 .show jb _ f=false;simp only[jb,K]
noncomputable def Mw:{c:SC // aC 21 (Tryz.f132.body.getD .skip)=c}:=by
 refine⟨?_,?_⟩;rotate_left
 .simp only[Tryz.f132,bI,aC,zll,zle,zlp,zln,Nat.blt,Nat.ble];rfl
noncomputable def Mx:{c:SC // aC 9 (Tryz.f133.body.getD .skip)=c}:=by
 refine⟨?_,?_⟩;rotate_left
 .simp only[Tryz.f133,bI,aC,zll,zle,zlp,zln,Nat.blt,Nat.ble];rfl
noncomputable def My:{c:SC // aC 34 (Tryz.f80.body.getD .skip)=c}:=by
 refine⟨?_,?_⟩;rotate_left
 .simp only[Tryz.f80,bI,aC,zll,zle,zlp,zln,Nat.blt,Nat.ble];rfl
noncomputable def Mz:{c:SC // aC 18 (Tryz.f81.body.getD .skip)=c}:=by
 refine⟨?_,?_⟩;rotate_left
 .simp only[Tryz.f81,bI,aC,zll,zle,zlp,zln,Nat.blt,Nat.ble];rfl
noncomputable def MA:{c:SC // aC 10 (Tryz.f46.body.getD .skip)=c}:=by
 refine⟨?_,?_⟩;rotate_left
 .simp only[Tryz.f46,bI,aC,zll,zle,zlp,zln,Nat.blt,Nat.ble];rfl
noncomputable def MB:{c:SC // aC 18 (Tryz.f107.body.getD .skip)=c}:=by
 refine⟨?_,?_⟩;rotate_left
 .simp only[Tryz.f107,bI,aC,zll,zle,zlp,zln,Nat.blt,Nat.ble];rfl
noncomputable def MC:{c:SC // aC 9 (Tryz.f147.body.getD .skip)=c}:=by
 refine⟨?_,?_⟩;rotate_left
 .simp only[Tryz.f147,bI,aC,zll,zle,zlp,zln,Nat.blt,Nat.ble];rfl
noncomputable def MD:{c:SC // aC 27 (Tryz.f170.body.getD .skip)=c}:=by
 refine⟨?_,?_⟩;rotate_left
 .simp only[Tryz.f170,bI,aC,zll,zle,zlp,zln,Nat.blt,Nat.ble];rfl
noncomputable def ME:{c:SC // aC 22 (Tryz.f108.body.getD .skip)=c}:=by
 refine⟨?_,?_⟩;rotate_left
 .simp only[Tryz.f108,bI,aC,zll,zle,zlp,zln,Nat.blt,Nat.ble];rfl
theorem zmY(ρ:Nat->Int)(n:Int):bM Tryz.prog ρ 132 [.int .u8 n] (.bool (pY n)):=zmy fit (pls:=pls) (l:=[]) trivial (.cons (.int _ _) .nil) (.bool _) (by
 have O:=zmQ 132;refine zlf (M:=21) (rs:=[.tmp 2]) (O.call _) O.ice O.froz Tryz.func132 rfl rfl Mw.2 rfl ?_;dsimp only[Mw,zD,Nat.reduceAdd];repeat' (first
  |(apply ah ?_;clear hK K)|apply Rx.o ?_|apply qP ?_|(apply cz (fun Z Y=>?_) (fun Z Y=>?_)<;>try(cases Z;done))|apply ak ?_|(apply zkU fun K hK=>?_)|apply aF ?_)
 all_goals (refine⟨eI,_,eR,?_⟩;try simp only[zkX])
 all_goals (simp_all[pY]<;>omega))
theorem zow(ρ:Nat->Int)(n:Int):bM Tryz.prog ρ 133 [.int .u8 n] (.bool (nT n)):=zmy fit (pls:=pls) (l:=[]) trivial (.cons (.int _ _) .nil) (.bool _) (by
 have O:=zmQ 133;refine zlf (M:=9) (rs:=[.tmp 2]) (O.call _) O.ice O.froz Tryz.func133 rfl rfl Mx.2 rfl ?_;dsimp only[Mx,zD,Nat.reduceAdd];repeat' (first
  |(apply ah ?_;clear hK K)|apply Rx.o ?_|(apply cz (fun Z Y=>?_) (fun Z Y=>?_)<;>try(cases Z;done))|apply ak ?_|(apply zkU fun K hK=>?_)|apply aF ?_)
 all_goals (refine⟨eI,_,eR,?_⟩;try simp only[zkX])
 all_goals (simp_all[nT]<;>omega))
def vL(n:Int):List AV:=[.int .u8 n]
theorem MF(x y:Int)(h:vL x=vL y):x=y:=by simpa [vL]using h
noncomputable def zK:En:=⟨132,false,b7 (fun _=>True) vL fun n=>.bool (pY n)⟩
noncomputable def zL:En:=⟨133,false,b7 (fun _=>True) vL fun n=>.bool (nT n)⟩
theorem zvl(ρ:Nat->Int):zl0 Tryz.prog ρ zK:=zl7 fun n _=>zmY ρ n
theorem zvm(ρ:Nat->Int):zl0 Tryz.prog ρ zL:=zl7 fun n _=>zow ρ n
theorem zqw(ρ:Nat->Int)(s:List UInt8)(hs:s.length<2^60):bM Tryz.prog ρ 80 [.str s] (.bool (mg s)):=zmy fit (pls:=pls) (l:=[zK,zL]) ⟨zvl ρ,zvm ρ,trivial⟩ (.cons (.str _) .nil) (.bool _) (by
 have hw:Plain (zkY pls [zK,zL]) 80:=zml (fun _=>rfl) rfl;have kl:∀(n:Int) (H:Hp),zk5 Tryz.prog (zkY pls [zK,zL]) 132 [.int .u8 n] H fun v H'=>v=.bool (pY n)/\H'=H:=fun n H=>zlM (enc:=vL) (out:=fun n=>.bool (pY n)) MF (x:=n) rfl trivial;have kd:∀(n:Int) (H:Hp),zk5 Tryz.prog (zkY pls [zK,zL]) 133 [.int .u8 n] H fun v H'=>v=.bool (nT n)/\H'=H:=fun n H=>zlM (enc:=vL) (out:=fun n=>.bool (nT n)) MF (x:=n) rfl trivial;refine zlf (M:=34) (rs:=[.tmp 2]) (hw.call _) hw.ice hw.froz Tryz.func80 rfl rfl My.2 rfl ?_;dsimp only[My,zD,Nat.reduceAdd];repeat' (first
  |(apply ah ?_;clear hK K)|apply Rx.o ?_|apply ak ?_|(apply zkU fun K hK=>?_)|apply aG ?_|fail)
 refine zlL [0] [] 3 s.length (fun i E H=>zmP s=i+zmP (s.drop i)/\(0<i->∀b,s[0]?=some b->nT b.toNat=false)) eE ax ?_;rintro i E H2 hi m hrH hnH hsI ⟨o,I⟩;(try simp only[zlm,zlb,aR,zk1,zk7,Nat.reduceBEq, *]at m);(try simp only[zlb, *]at hrH);(try simp only[zlI,]at hnH);repeat' (first
  |(apply ah ?_;clear hK K)|apply Rx.o ?_|(apply cz (fun J V=>?_) (fun J V=>?_)<;>try(cases J;done))|(apply a0 (fun C j=>?_) (fun C j=>?_)<;>try(cases C;done))|apply ak ?_|(apply zkU fun K hK=>?_)|apply aG ?_|apply zk3 ?_|apply aF ?_|apply zlu ?_)
 .have z:i<s.length:=by simpa using C
  have hgx:s[i]?=some s[i]:=aT z;have O:zmP (s.drop i)=if lL s[i]then zmP (s.drop (i+1))+1 else 0:=by rw[fS z,zmP]
  repeat' (first
   |(apply ah ?_;clear hK K)|apply Rx.o ?_|(apply eM ?_;first|refine zlc (kl _ _) ?_|refine zlc (kd _ _) ?_)|apply qP ?_|(apply cz (fun J V=>?_) (fun J V=>?_)<;>try(cases J;done))|(apply a0 (fun C j=>?_) (fun C j=>?_)<;>try(cases C;done))|apply ak ?_|(apply zkU fun K hK=>?_)|apply zk3 ?_|apply aF ?_|fail)
  .all_goals (refine⟨eI,_,eR,?_⟩;try simp only[zkX])
   have U:i=0:=ac;subst U;unfold mg;cases s<;>simp_all
  .refine⟨ac,zk8,zk8,zlF,CU,?_⟩;have Z:lL s[i]=true:=by simp_all[lL]
   refine⟨by rw[o,O,Z];simp;omega,fun _ b Y=>I ac b Y⟩
  .all_goals (refine⟨eI,_,eR,?_⟩;try simp only[zkX])
   have Z:lL s[i]=false:=by simp_all[lL]
   rw[Z]at O;simp at O;unfold mg;simp[show ¬zmP s=s.length by omega]
  .refine⟨ac,zk8,zk8,zlF,CU,?_⟩;have Z:lL s[i]=true:=by simp_all[lL]
   refine⟨by rw[o,O,Z];simp;omega,fun _ b Y=>?_⟩;by_cases h0:0<i
   .exact I h0 b Y
   .have U:i=0:=by omega
    subst U;rw[hgx]at Y;have:s[0]=b:=sw;subst this;have hle:pY s[0].toNat=true:=by simp_all
    simp only[pY,nT]at *;simp only[pN,lW]at hle;simp only[xp,lJ];omega
 all_goals
  have hie:i=s.length:=ac;all_goals (refine⟨eI,_,eR,?_⟩;try simp only[zkX])
  rw[hie]at o;simp[zmP]at o;unfold mg;cases s<;>simp_all<;>omega)
def zlo(l:List (List UInt8))(s:List UInt8):Bool:=l.any fun x=>decide (x=s)
theorem MG(ρ:Nat->Int)(l:List (List UInt8))(s:List UInt8)(m:l.length<2^60):bM Tryz.prog ρ 107 [zlY l,.str s] (.bool (zlo l s)):=zmy fit (pls:=pls) (l:=[]) trivial (.cons (ug _) (.cons (.str _) .nil)) (.bool _) (by
 have J:=zmQ 107;refine zlf (M:=18) (rs:=[.tmp 4]) (J.call _) J.ice J.froz Tryz.func107 rfl rfl MB.2 rfl ?_;dsimp only[MB,zD,Nat.reduceAdd];repeat' (first
  |(apply ah ?_;clear hK K)|apply Rx.o ?_|apply ak ?_|(apply zkU fun K hK=>?_)|apply aG ?_|fail)
 refine zlL [0,1] [] 5 l.length (fun i E H=>zlo l s=zlo (l.drop i) s) eE ax ?_;rintro i E H2 hi Y V U I z;(try simp only[zlm,zlb,aR,zk1,zk7,Nat.reduceBEq, *]at Y);(try simp only[zlb, *]at V);(try simp only[zlI,]at U);repeat' (first
  |(apply ah ?_;clear hK K)|apply Rx.o ?_|(apply a0 (fun C j=>?_) (fun C j=>?_)<;>try(cases C;done))|apply ak ?_|(apply zkU fun K hK=>?_)|apply aG ?_|apply zk3 ?_|apply aF ?_|apply zlu ?_)
 .have Z:i<l.length:=by simpa using C
  have o:l[i]?=some l[i]:=aT Z;have O:zlo (l.drop i) s=(decide (l[i]=s)||zlo (l.drop (i+1)) s):=G7;repeat' (first
   |(apply ah ?_;clear hK K)|apply Rx.o ?_|(apply a0 (fun C j=>?_) (fun C j=>?_)<;>try(cases C;done))|apply ak ?_|(apply zkU fun K hK=>?_)|apply zk3 ?_|apply aF ?_|fail)
  .all_goals (refine⟨eI,_,eR,?_⟩;try simp only[zkX])
   rw[z,O];simp_all
  .refine⟨ac,zk8,zk8,zlF,rL,?_⟩;rw[z,O];simp_all
 .all_goals (refine⟨eI,_,eR,?_⟩;try simp only[zkX])
  rw[z,show i=l.length by simp at C;omega];simp[zlo])
def p6(op:Int):Bool:=decide (4<=op)&&decide (op<=18)
theorem zti(ρ:Nat->Int)(op:Int):bM Tryz.prog ρ 147 [.int .i64 op] (.bool (p6 op)):=zmy fit (pls:=pls) (l:=[]) trivial (.cons (.int _ _) .nil) (.bool _) (by
 have O:=zmQ 147;refine zlf (M:=9) (rs:=[.tmp 2]) (O.call _) O.ice O.froz Tryz.func147 rfl rfl MC.2 rfl ?_;dsimp only[MC,zD,Nat.reduceAdd];repeat' (first
  |(apply ah ?_;clear hK K)|apply Rx.o ?_|(apply cz (fun Z Y=>?_) (fun Z Y=>?_)<;>try(cases Z;done))|apply ak ?_|(apply zkU fun K hK=>?_)|apply aF ?_)
 all_goals (refine⟨eI,_,eR,?_⟩;try simp only[zkX])
 all_goals (simp_all[p6]<;>omega))
def zeroE(x:Ex):Bool:=decide (x.kind=0)&&decide (x.n=0)&&decide (x.name=[])&&decide (x.op=0)&&decide (x.kids.length=0)
theorem ztj(ρ:Nat->Int)(x:Ex):bM Tryz.prog ρ 170 [.agg x.cells] (.bool (zeroE x)):=zmy fit (pls:=pls) (l:=[]) trivial (.cons (.agg x.pure) .nil) (.bool _) (by
 have O:=zmQ 170;refine zlf (M:=27) (rs:=[.tmp 2]) (O.call _) O.ice O.froz Tryz.func170 rfl rfl MD.2 rfl ?_;dsimp only[MD,zD,Nat.reduceAdd];repeat' (first
  |(apply ah ?_;clear hK K)|apply Rx.o ?_|(apply cz (fun Z Y=>?_) (fun Z Y=>?_)<;>try(cases Z;done))|apply ak ?_|(apply zkU fun K hK=>?_)|apply aF ?_)
 all_goals
  all_goals (refine⟨eI,_,eR,?_⟩;try simp only[zkX])
 all_goals simp_all[zeroE])
def zl2:List Fu->List UInt8->Int->Int
 |[],_,_=>-1
 |f::l,s,i=>if f.name=s then i else zl2 l s (i+1)
theorem zvn(ρ:Nat->Int)(p:Pr)(s:List UInt8)(hl:p.funcs.length<2^60):bM Tryz.prog ρ 108 [.agg p.cells,.str s] (.int .i64 (zl2 p.funcs s 0)):=zmy fit (pls:=pls) (l:=[]) trivial (.cons (.agg p.pure) (.cons (.str _) .nil)) (.int _ _) (by
 have J:=zmQ 108;refine zlf (M:=22) (rs:=[.tmp 4]) (J.call _) J.ice J.froz Tryz.func108 rfl rfl ME.2 rfl ?_;dsimp only[ME,zD,Nat.reduceAdd];repeat' (first
  |(apply ah ?_;clear hK K)|apply Rx.o ?_|apply ak ?_|(apply zkU fun K hK=>?_)|apply aG ?_|fail)
 refine zlL [1,2] [0] 5 p.funcs.length (fun i E H=>zl2 p.funcs s 0=zl2 (p.funcs.drop i) s i) eE ax ?_;rintro i E I hi Y V U o z;(try simp only[zlm,zlb,aR,zk1,zk7,Nat.reduceBEq, *]at Y);(try simp only[zlm,zlb,aR,zk1,zk7, *]at V);(try simp only[zk9,zlI,bL]at U);have m:(0 == I.next)=false:=zkV ac;have hC0:(I.next == 0)=false:=zkV ac;repeat' (first
  |(apply ah ?_;clear hK K)|apply Rx.o ?_|(apply a0 (fun C j=>?_) (fun C j=>?_)<;>try(cases C;done))|apply ak ?_|(apply zkU fun K hK=>?_)|apply aG ?_|apply zk3 ?_|apply aF ?_|apply zlu ?_)
 .have Z:i<p.funcs.length:=by simpa using C
  have hgx:p.funcs[i]?=some p.funcs[i]:=aT Z;have O:zl2 (p.funcs.drop i) s i=if p.funcs[i].name=s then (i:Int)else zl2 (p.funcs.drop (i+1)) s (i+1):=G7
  repeat' (first
   |(apply ah ?_;clear hK K)|apply Rx.o ?_|(apply a0 (fun C j=>?_) (fun C j=>?_)<;>try(cases C;done))|apply ak ?_|(apply zkU fun K hK=>?_)|apply zk3 ?_|apply aF ?_|fail)
  .all_goals (refine⟨eI,_,eR,?_⟩;try simp only[zkX])
   rw[z,O,am (by simp_all)]
  .refine⟨ac,zk8,zk8,zlF,oX,?_⟩;rw[z,O,af (by simp_all)];rfl
 .all_goals (refine⟨eI,_,eR,?_⟩;try simp only[zkX])
  rw[z,show i=p.funcs.length by simp at C;omega];simp[zl2])
def nU:List (List UInt8):=[[97,114,114,97,121],[102,117,110,99],[118,97,114],[114,101,116,117,114,110],[105,102],[101,108,115,101],[119,104,105,108,101],[111,117,116],[116,114,97,112]]
theorem MH(s:List UInt8):zlo nU s=ui s:=by
 simp only[zlo,nU,ui,qT,xq,iu,<-Hg];simp only[eq_comm]
theorem zdn(H:Hp)(a b c d e f g h i:List UInt8):zmb Tryz.prog H 59 9 [(0,.str a),(1,.str b),(2,.str c),(3,.str d),(4,.str e),(5,.str f),(6,.str g),(7,.str h),(8,.str i)]=some (.sl H.next 0 9 1,H.alloc (.cells ([a,b,c,d,e,f,g,h,i].map .str) 0 true)):=aj
theorem zmZ(ρ:Nat->Int)(s:List UInt8):bM Tryz.prog ρ 81 [.str s] (.bool (ui s)):=zmy fit (pls:=pls) (l:=[]) trivial (.cons (.str _) .nil) (.bool _) (by
 have J:=zmQ 81;refine zlf (M:=18) (rs:=[.tmp 2]) (J.call _) J.ice J.froz Tryz.func81 rfl rfl Mz.2 rfl ?_;dsimp only[Mz,zD,Nat.reduceAdd];have m:=@zdn;repeat' (first
  |(apply ah ?_;clear hK K)|apply Rx.o ?_|apply ak ?_|(apply zkU fun K hK=>?_)|apply aG ?_|fail)
 refine zlL [0,3] [0] 4 9 (fun i E H=>zlo nU s=zlo (nU.drop i) s) eE ax ?_;rintro i E I hi V Z U o z;(try simp only[zlm,zlb,aR,zk1,zk7,Nat.reduceBEq, *]at V);(try simp only[zlm,zlb,aR,zk1,zk7, *]at Z);(try simp only[zk9,zlI,bL]at U);have hB0:(0 == I.next)=false:=zkV ac;have hC0:(I.next == 0)=false:=zkV ac;change I.get 0=some (.cells (nU.map .str) 0 true)at Z;have hr9:nU.length=9:=rfl;repeat' (first
  |(apply ah ?_;clear hK K)|apply Rx.o ?_|(apply a0 (fun C j=>?_) (fun C j=>?_)<;>try(cases C;done))|apply ak ?_|(apply zkU fun K hK=>?_)|apply aG ?_|apply zk3 ?_|apply aF ?_|apply zlu ?_)
 .have Y:i<nU.length:=by omega
  have hgx:nU[i]?=some nU[i]:=aT Y;have O:zlo (nU.drop i) s=(decide (nU[i]=s)||zlo (nU.drop (i+1)) s):=G8;have hi9:decide (i<9)=true:=b9;repeat' (first
   |(apply ah ?_;clear hK K)|apply Ry.o ?_|(apply bb (fun C j=>?_) (fun C j=>?_)<;>try(cases C;done))|apply ak ?_|(apply zkU fun K hK=>?_)|apply zk3 ?_|apply aF ?_|fail)
  .all_goals (refine⟨eI,_,eR,?_⟩;try simp only[zkX])
   rw[<-MH,z,O];simp_all
  .refine⟨ac,(by simp only[zlm,zlb,aR,zk1,zk7,Nat.reduceBEq,nU, *]),(by simp only[zlm,zlb,aR,zk1,zk7,nU, *]),zlF,(by simp only[zk1,Nat.reduceBEq, *];exact zni (n:=9) ac ac),?_⟩;rw[z,O];simp_all
 .all_goals (refine⟨eI,_,eR,?_⟩;try simp only[zkX])
  rw[<-MH,z,show i=9 by omega];rfl)
def nV(s:List UInt8):List AV:=[.str s]
theorem vM(x y:List UInt8)(h:nV x=nV y):x=y:=by simpa [nV]using h
noncomputable def zM:En:=⟨80,false,b7 (fun s=>s.length<2^60) nV fun s=>.bool (mg s)⟩
noncomputable def zN:En:=⟨81,false,b7 (fun _=>True) nV fun s=>.bool (ui s)⟩
theorem zoC(ρ:Nat->Int):zl0 Tryz.prog ρ zM:=zl7 fun s U=>zqw ρ s U
theorem zvo(ρ:Nat->Int):zl0 Tryz.prog ρ zN:=zl7 fun s _=>zmZ ρ s
theorem zqx(ρ:Nat->Int)(s:List UInt8)(U:s.length<2^60):bM Tryz.prog ρ 46 [.str s] (.bool (zl8 s)):=zmy fit (pls:=pls) (l:=[zM,zN]) ⟨zoC ρ,zvo ρ,trivial⟩ (.cons (.str _) .nil) (.bool _) (by
 have O:Plain (zkY pls [zM,zN]) 46:=zml (fun _=>rfl) rfl;have V:∀(H:Hp),zk5 Tryz.prog (zkY pls [zM,zN]) 80 [.str s] H fun v H'=>v=.bool (mg s)/\H'=H:=fun H=>zlM (enc:=nV) (out:=fun n=>.bool (mg n)) vM (x:=s) rfl U;have J:∀(H:Hp),zk5 Tryz.prog (zkY pls [zM,zN]) 81 [.str s] H fun v H'=>v=.bool (ui s)/\H'=H:=fun H=>zlM (enc:=nV) (out:=fun n=>.bool (ui n)) vM (x:=s) rfl trivial;refine zlf (M:=10) (rs:=[.tmp 2]) (O.call _) O.ice O.froz Tryz.func46 rfl rfl MA.2 rfl ?_;dsimp only[MA,zD,Nat.reduceAdd];repeat' (first
  |(apply ah ?_;clear hK K)|apply Rx.o ?_|(apply eM ?_;first|refine zlc (V _) ?_|refine zlc (J _) ?_)|(apply cz (fun Z Y=>?_) (fun Z Y=>?_)<;>try(cases Z;done))|apply ak ?_|(apply zkU fun K hK=>?_)|apply aF ?_)
 all_goals (refine⟨eI,_,eR,?_⟩;try simp only[zkX])
 all_goals (simp_all[zl8]))
end
def dV(H:Hp)(v:AV)(l:List (List UInt8))(lo:Nat):Prop:=∃r m,v=.sl r 0 l.length 1/\H.get r=some (.cells (l.map .str) m true)/\m<=l.length/\lo<=r/\r<H.next
def eB(H:Hp)(v:AV)(l:List (List UInt8))(lo:Nat):Prop:=(v=.nilS/\l=[])\/dV H v l lo
theorem dV.low{H H':Hp}{v:AV}{l:List (List UInt8)}{lo:Nat}(h:dV H v l lo)(J:H.next<=H'.next)(K:∀k,lo<=k->k<H.next->H'.get k=H.get k):dV H' v l lo:=by
 obtain⟨r,m,Z,j,z,Y,V⟩:=h;exact⟨r,m,Z,by rw[K r Y V];exact j,z,Y,ac⟩
def zlk(v:AV)(k:Nat):Prop:=∃n,v=.sl k 0 n 1
def qW(v o:AV)(H H':Hp):Prop:=(∀k,k<H.next->¬zlk v k->H'.get k=H.get k)/\∀k,zlk o k->zlk v k\/H.next<=k
theorem dV.lt{H:Hp}{v:AV}{l:List (List UInt8)}{lo:Nat}(h:dV H v l lo){k:Nat}(o:zlk v k):lo<=k/\k<H.next:=by
 obtain⟨r,m,rfl,_,_,Y,Z⟩:=h;obtain⟨n,e⟩:=o;simp only[AV.sl.injEq]at e;rw[<-e.1];exact⟨Y,Z⟩
theorem eB.lt{H:Hp}{v:AV}{l:List (List UInt8)}{lo:Nat}(h:eB H v l lo){k:Nat}(o:zlk v k):lo<=k/\k<H.next:=by
 rcases h with⟨rfl,_⟩|h
 .obtain⟨n,e⟩:=o;simp at e
 .exact h.lt o
theorem dV.keep{H H':Hp}{v:AV}{l:List (List UInt8)}{lo:Nat}(h:dV H v l lo)(J:H.next<=H'.next)(K:∀k,zlk v k->H'.get k=H.get k):dV H' v l lo:=by
 obtain⟨r,m,rfl,j,z,Y,Z⟩:=h;exact⟨r,m,rfl,CR,z,Y,ac⟩
theorem eB.keep{H H':Hp}{v:AV}{l:List (List UInt8)}{lo:Nat}(h:eB H v l lo)(J:H.next<=H'.next)(K:∀k,zlk v k->H'.get k=H.get k):eB H' v l lo:=h.imp id fun h=>h.keep J K
theorem MI(l:List (List UInt8)):(l.map AV.str).all AV.one=true:=by simp[AV.one]
theorem CY(m:List (List UInt8)):(m.map fun s=>[AV.str s]).flatten=m.map .str:=by induction m with
 |nil=>rfl
 |cons a m ih=>simp[ih]
theorem zvp(H:Hp)(m:List (List UInt8)):zmM H 1 (zlY m)=some (m.length,m.map .str):=by
 have e:zmM H 1 (zlY m)=if ((m.map fun s=>[AV.str s]).all fun V=>V.length == 1)then some ((m.map fun s=>[AV.str s]).length,(m.map fun s=>[AV.str s]).flatten)else none:=rfl
 rw[e,am ax,CY,cp]
theorem Hm{H:Hp}{r imm:Nat}{m:List (List UInt8)}(h:H.get r=some (.cells (m.map .str) imm true)):zmM H 1 (.sl r 0 m.length 1)=some (m.length,m.map .str):=by
 have:=sN (H:=H) (r:=r) (o:=0) (n:=m.length) (z:=1) (s:=1) h ax;rw[this,fH,gl ax]
theorem Hn{H:Hp}{v x:AV}{l m:List (List UInt8)}{lo:Nat}(I:eB H v l lo)(K:lo<=H.next)(V:zmM H 1 x=some (m.length,m.map .str))(z:m≠[])(C:l.length+m.length<2^40):
 ∃U H',zmc Tryz.prog false H 59 59 v x=some (U,H')/\dV H' U (l++m) lo/\H'.next=H.next+1/\(∀k,k<lo->H'.get k=H.get k)/\qW v U H H':=by
 obtain⟨n,J⟩:∃n,m.length=n+1:=⟨m.length-1,G9⟩;have Y:zmr=70368744177664:=rfl;rw[J]at V;rcases I with⟨rfl,rfl⟩|⟨r,Z,rfl,M,h3,h4,h5⟩
 .refine⟨.sl H.next 0 (n+1) 1,H.alloc (.cells (m.map .str) 0 true),append_nil Tryz.underlying59 sO uc ud aj V (MI m) rfl lM lM,⟨H.next,0,sU,iT,ac,K,cE _⟩,rfl,fun k o=>gk,fun k o _=>gk,fun k o=>.inr ?_⟩;obtain⟨n',e⟩:=o;simp only[AV.sl.injEq]at e;omega
 .have O:iC false H 1 (.sl r 0 l.length 1)=H:=by
   unfold iC;simp only[M,bL,cp,lV];have:Nat.blt l.length l.length=false:=by
    cases C:Nat.blt l.length l.length with
    |false=>rfl
    |true=>rw[jH]at C;omega
   simp[this]
  refine⟨.sl H.next 0 (l.length+(n+1)) 1,(H.kill r).alloc (.cells (l.map .str++m.map .str) (Z-0) true),?_,⟨H.next,Z,sU,?_,b9,K,cE _⟩,rfl,fun k o=>?_,fun k o j=>?_,fun k o=>.inr ?_⟩
  .simp only[zmc,Tryz.underlying59,sO,uc,ud,show znh Tryz.prog 59=true by kernel_rfl,V,MI,O,oM,dB,mU,znM,M,cp,bL,lV,fH];rw[am ⟨lM,lM,trivial,trivial,h3⟩];simp
  .show((H.kill r).alloc _).get (H.kill r).next=_
   rw[zkZ,am rfl];simp
  .rw[zkZ,af nh,znf,af ac]
  .rw[zkZ,af nh,znf,af (fun e=>j ⟨_,oL⟩)]
  .obtain⟨n',e⟩:=o;simp only[AV.sl.injEq]at e;omega
theorem xt{H:Hp}{v:AV}{l:List (List UInt8)}{lo:Nat}(m:List (List UInt8))(Z:dV H v l lo)(K:lo<=H.next)(C:l.length+m.length<2^40):
 ∃o H',zmc Tryz.prog false H 59 59 v (zlY m)=some (o,H')/\dV H' o (l++m) lo/\H.next<=H'.next/\(∀k,k<lo->H'.get k=H.get k)/\qW v o H H':=by
 by_cases V:m=[]
 .subst V;refine⟨v,H,?_,He,aB _,fun _ _=>rfl,fun _ _ _=>rfl,fun _ h=>.inl h⟩;obtain⟨r,Y,rfl,j,_⟩:=Z;simp only[zmc,Tryz.underlying59,sO,uc,ud,show znh Tryz.prog 59=true by kernel_rfl,mh,zmM,pZ,dB,eW]
 .obtain⟨o,H',U,j,z,O⟩:=Hn (.inr Z) K (zvp H m) V C;exact⟨o,H',U,j,ac,O⟩
theorem xu{H:Hp}{v:AV}{l:List (List UInt8)}{lo r imm:Nat}(s:List UInt8)(Z:eB H v l lo)(K:lo<=H.next)(U:H.get r=some (.cells [.str s] imm true))(C:l.length<2^39):
 ∃o H',zmc Tryz.prog false H 59 59 v (.sl r 0 1 1)=some (o,H')/\dV H' o (l++[s]) lo/\H'.next=H.next+1/\(∀k,k<lo->H'.get k=H.get k)/\qW v o H H':=
 Hn Z K (Hm (m:=[s]) U) ax b9
theorem zzL{H:Hp}{v w:AV}{l m:List (List UInt8)}{lo lo':Nat}(Z:dV H v l lo)(K:lo<=H.next)(O:eB H w m lo')(C:l.length+m.length<2^40):
 ∃o H',zmc Tryz.prog false H 59 59 v w=some (o,H')/\dV H' o (l++m) lo/\H.next<=H'.next/\(∀k,k<lo->H'.get k=H.get k)/\qW v o H H':=by
 by_cases V:m=[]
 .subst V;refine⟨v,H,?_,He,aB _,fun _ _=>rfl,fun _ _ _=>rfl,fun _ h=>.inl h⟩;obtain⟨r,U,rfl,j,_⟩:=Z;rcases O with⟨rfl,_⟩|⟨r',z,rfl,I,_⟩
  .simp only[zmc,Tryz.underlying59,sO,uc,ud,show znh Tryz.prog 59=true by kernel_rfl,zmM]
  .have Y:=Hm I;simp only[eW]at Y;simp only[zmc,Tryz.underlying59,sO,uc,ud,show znh Tryz.prog 59=true by kernel_rfl,eW,Y]
 .rcases O with⟨_,h⟩|⟨r',z,rfl,I,_⟩
  .exact(V h).elim
  .obtain⟨o,H',M,j,h3,J⟩:=Hn (.inr Z) K (Hm I) V C;exact⟨o,H',M,j,ac,J⟩
theorem dV.len{H H':Hp}{v:AV}{l:List (List UInt8)}{lo:Nat}(h:dV H v l lo):zlS Tryz.prog H' 59 v=some (.int .i64 l.length):=by
 obtain⟨r,m,rfl,_⟩:=h;exact znB Tryz.underlying59 _ _ _ _
theorem dV.at{H:Hp}{v:AV}{l:List (List UInt8)}{lo:Nat}(h:dV H v l lo){i:Nat}(I:i<l.length):
 ∃r,zlO Tryz.prog 59 v (.int .i64 (i:Int))=some (.ptr r i)/\iN Tryz.prog H 9 (.ptr r i)=some (.str l[i]):=by
 obtain⟨r,m,rfl,j,_⟩:=h;refine⟨r,?_,?_⟩
 .rw[vy Tryz.underlying59 sO I];simp
 .rw[ub Tryz.underlying9 rfl j,eS,aT I];rfl
theorem dV.one{H:Hp}{v:AV}{l:List (List UInt8)}{lo:Nat}(h:dV H v l lo):AV.one v=true/\v.cells=[v]:=by
 obtain⟨r,m,rfl,_⟩:=h;exact⟨rfl,rfl⟩
theorem MJ(l:List (List UInt8)):gN 1 l.length (l.map .str)=l.map fun s=>[AV.str s]:=by
 induction l with
 |nil=>rfl
 |cons a l ih=>simp[gN,ih]
theorem MK(n:Nat):∀(l:List (List UInt8)) (H:Hp),gO (fh (n+1)) (l.map .str) H=some (l.map .str,H)
 |[],H=>rfl
 |a::l,H=>by
  have:=MK n l H;have e:fh (n+1) (.str a) H=some (.str a,H):=rfl;simp only[dM,gO,e,this]
theorem dV.ice{H:Hp}{v:AV}{l:List (List UInt8)}{lo:Nat}(h:dV H v l lo)(n:Nat):
 ∃H',fh (n+2) v H=some (zlY l,H')/\dV H' v l lo/\H'.next=H.next/\(∀k,k<lo->H'.get k=H.get k)/\∀k,¬zlk v k->H'.get k=H.get k:=by
 obtain⟨r,m,rfl,j,O,Z,V⟩:=h;refine⟨H.set r (.cells (l.map .str) (max m l.length) true),?_,⟨r,max m l.length,rfl,gQ,ac,Z,V⟩,rfl,fun k o=>kE,fun k o=>by rw[aJ,af (fun e=>o ⟨_,oL⟩)]⟩;have e:fh (n+2) (.sl r 0 l.length 1) H=match H.get r with
  |some (.cells z m Y)=>match Nat.ble (0+l.length*1) z.length&&Nat.ble m z.length with
   |true=>match gO (fh (n+1)) ((z.drop 0).take (l.length*1)) (H.set r (.cells z (max m (0+l.length*1)) Y))with
    |some (J,H)=>some (.lst (gN 1 l.length J),H)
    |none=>none
   |false=>none
  |_=>none:=rfl
 rw[e,j];simp only[cp,bL,lV,fH];have U:Nat.ble l.length l.length=true:=CS;have K:Nat.ble m l.length=true:=CS;rw[U,K];simp only[vt];rw[gl ax,MK];simp only[MJ]
theorem bM.args{P:Program}{ρ:Nat->Int}{f:FuncId}{M V:List AV}{r:AV}(h:bM P ρ f M r)(Z:∀(G:Gh) vs,cm G V vs->cm G M vs):bM P ρ f V r:=
 ⟨h.1,fun G w vs m j z=>h.2 G w vs m j (Z G vs z)⟩
theorem zvq{G:Gh}{a:List AV}{vs:List Value}(h:cm G (.nilS::a) vs):cm G (zlY []::a) vs:=by
 cases vs with
 |nil=>have:=h.1;simp at this
 |cons v vs=>
  obtain⟨j,I⟩:=h.of_cons;cases j;exact mV (.lst0 _ _) I
def sX(x:Option (List (List UInt8))×List UInt8):List AV:=match x with
 |(none,s)=>[.nilS,.str s]
 |(some l,s)=>[zlY l,.str s]
theorem Ho(x y:Option (List (List UInt8))×List UInt8)(h:sX x=sX y):x=y:=by
 obtain⟨a,s⟩:=x;obtain⟨b,u⟩:=y;cases a<;>cases b<;>simp only[sX,ea,AV.str.injEq,AV.lst.injEq,aR,reduceCtorEq,false_and,j9]at h
 .rw[h]
 .rw[vJ h.1,h.2]
noncomputable def rM:En:=⟨107,true,b7 (fun x=>(x.1.getD []).length<2^60) sX fun x=>.bool (zlo (x.1.getD []) x.2)⟩
theorem Hr(ρ:Nat->Int):zl0 Tryz.prog ρ rM:=zl7 fun x hx=>by
 obtain⟨a,s⟩:=x;cases a with
 |none=>exact bM.args (MG ρ [] s ax) fun G vs h=>zvq h
 |some l=>exact MG ρ l s hx
theorem Ht{l:List En}(M:∀Y,zme l 107 Y=rM.sp Y)(I:jb l 107=true){H:Hp}{v:AV}{r:List (List UInt8)}{lo:Nat}(Z:eB H v r lo)(hr:r.length<2^60)(s:List UInt8):
 zk5 Tryz.prog (zkY pls l) 107 [v,.str s] H fun w H'=>w=.bool (zlo r s)/\eB H' v r lo/\H'.next=H.next/\(∀k,k<lo->H'.get k=H.get k)/\∀k,¬zlk v k->H'.get k=H.get k:=by
 rcases Z with⟨rfl,rfl⟩|Z
 .refine aS ?_ (zlM (enc:=sX) (out:=fun x=>.bool (zlo (x.1.getD []) x.2)) Ho (x:=(none,s)) (M _) hr);rintro w _ ⟨rfl,rfl⟩;exact⟨rfl,.inl ⟨rfl,rfl⟩,rfl,fun _ _=>rfl,fun _ _=>rfl⟩
 .obtain⟨H',m,j,V,U⟩:=Z.ice 98;have z:∀y,(y.1.getD []).length<2^60->sX y≠[v,.str s]:=fun y _ e=>by
   obtain⟨q,O,rfl,_⟩:=Z;obtain⟨a,u⟩:=y;cases a<;>simp[sX]at e
  refine aS ?_ (CK (enc:=sX) (out:=fun x=>.bool (zlo (x.1.getD []) x.2)) Ho (x:=(some r,s)) M I hr z (H':=H') ?_)
  .rintro w _ ⟨rfl,rfl⟩;exact⟨rfl,.inr j,V,U⟩
  .show gO (fh 100) [v,.str s] H=some ([zlY r,.str s],H');simp only[gO,m];rfl
end Go.Proofs.YtpbcimfiofmoeaaGreat
namespace Go.Ab
set_option maxRecDepth 20000
open Go
def bX:Nat->AV->AV
 |0,v=>v
 |n+1,v=>match v with
  | .nilS=>.lst []
  | .lst Z=>.lst (Z.map fun V=>V.map (bX n))
  | .agg z=>.agg (z.map (bX n))
  | .tup z=>.tup (z.map (bX n))
  |v=>v
theorem VR.wk{G:Gh}:∀(n:Nat) {v:AV}{x:Value},VR G v x->VR G (bX n v) x
 |0,_,_,h=>h
 |n+1,v,x,h=>by
  cases h with
  |nilS=>exact .lst0 _ _
  |lst vs C U Z hc=>
   rename_i xs b o cap z;have:=VR.lst (G:=G) (xs:=xs.map fun V=>V.map (bX n)) (b:=b) (o:=o) (cap:=cap) (z:=z) vs ?_ ?_ ?_ ?_
   .rw[cp]at this;exact this
   .intro i V hr;rw[eS]at hr;cases hx:xs[i]? with
    |none=>rw[hx]at hr;simp at hr
    |some zlE=>rw[hx]at hr;simp only[pM]at hr;rw[<-hr,cp];exact C i zlE hx
   .intro i j I J;rw[cp]at I;exact U i j I J
   .intro i j V c hr K;rw[eS]at hr;cases hx:xs[i]? with
    |none=>rw[hx]at hr;simp at hr
    |some zlE=>
     rw[hx]at hr;simp only[pM]at hr;rw[<-hr,eS]at K;cases hy:zlE[j]? with
     |none=>rw[hy]at K;simp at K
     |some c0=>rw[hy]at K;simp only[pM]at K;rw[<-K];exact VR.wk n (Z i j zlE c0 hx hy)
   .rw[cp];exact hc
  |lst0 a cap=>exact .lst0 a cap
  |agg M Z=>
   refine .agg (by rw[cp];exact M) fun i c v hc O=>?_;rw[eS]at hc;rename_i Y vs;cases hy:Y[i]? with
   |none=>rw[hy]at hc;simp at hc
   |some c0=>rw[hy]at hc;simp only[pM]at hc;rw[<-hc];exact VR.wk n (Z i c0 v hy O)
  |tup M Z=>
   refine .tup (by rw[cp];exact M) fun i c v hc O=>?_;rw[eS]at hc;rename_i Y vs;cases hy:Y[i]? with
   |none=>rw[hy]at hc;simp at hc
   |some c0=>rw[hy]at hc;simp only[pM]at hc;rw[<-hc];exact VR.wk n (Z i c0 v hy O)
  |int k m=>exact .int k m
  |sx k e=>exact .sx k e
  |bool b=>exact .bool b
  |str s l h=>exact .str s l h
  |nilP=>exact .nilP
  |nilM=>exact .nilM
  |nilF=>exact .nilF
  |ptr h=>exact .ptr h
  |iptr vs U Z=>exact .iptr vs U Z
  |sl h M hc=>exact .sl h M hc
  |map h=>exact .map h
  |clo M Z=>exact .clo M Z
theorem bM.wk{P:Program}{ρ:Nat->Int}{f:FuncId}{M:List AV}{r:AV}(n:Nat)(h:bM P ρ f M r):bM P ρ f M (bX n r):=
 ⟨h.1,fun G w vs m j z=>(h.2 G w vs m j z).mono fun _ _ ⟨v,J,Y,Z,V⟩=>⟨v,J,Y,Z.wk n,V⟩⟩
theorem ML{P:Program}{ρ:Nat->Int}{f:FuncId}{M:List AV}{r C:AV}(n:Nat)(h:bM P ρ f M r)(e:bX n r=C):bM P ρ f M C:=e▸h.wk n
variable {P:Program} {cfg:Cfg} {f N:Nat}
theorem zvr{c:SC}{E:aw}{H:Hp}{Q:AX->aw->Hp->Prop}(cs:List Nat)(h:∀E':aw,(∀k∈cs,E'.at k=E.at k)->zlt P cfg f N c E' H Q):zlt P cfg f N c E H Q:=h E fun _ _=>rfl
def cr{Z β:Type}(p:Z->β->Prop):List Z->List β->Prop
 |[],[]=>True
 |a::l,b::m=>p a b/\cr p l m
 |_,_=>False
theorem cr.len{Z β:Type}{p:Z->β->Prop}:∀{l:List Z}{m:List β},cr p l m->l.length=m.length
 |[],[],_=>rfl
 |_::_,_::_,h=>by simp only[eK,cr.len h.2]
theorem cr.mono{Z β:Type}{p q:Z->β->Prop}(h:∀a b,p a b->q a b):∀{l:List Z}{m:List β},cr p l m->cr q l m
 |[],[],_=>trivial
 |_::_,_::_,k=>⟨h _ _ k.1,cr.mono h k.2⟩
theorem cr.append{Z β:Type}{p:Z->β->Prop}:∀{l:List Z}{m:List β}{J:List Z}{I:List β},cr p l m->cr p J I->cr p (l++J) (m++I)
 |[],[],_,_,_,h=>h
 |_::_,_::_,_,_,h,k=>⟨h.1,cr.append h.2 k⟩
theorem cr.refl{Z:Type}{p:Z->Z->Prop}:∀{l:List Z},(∀a∈l,p a a)->cr p l l
 |[],_=>trivial
 |a::l,h=>⟨h a ee,cr.refl fun b C=>h b (el _ C)⟩
theorem cr.get{Z β:Type}{p:Z->β->Prop}:∀{l:List Z}{m:List β},cr p l m->∀{i:Nat}{a:Z}{b:β},l[i]?=some a->m[i]?=some b->p a b
 |[],[],_,i,_,_,h,_=>by simp at h
 |a::l,b::m,h,0,_,_,h1,h2=>by
  simp only[sR,aL]at h1 h2;subst h1;subst h2;exact h.1
 |a::l,b::m,h,i+1,_,_,h1,h2=>cr.get h.2 (by simpa using h1) (by simpa using h2)
theorem cr.set{Z β:Type}{p:Z->β->Prop}:∀{l:List Z}{m:List β},cr p l m->∀{i:Nat}{a:Z}{b:β},p a b->cr p (l.set i a) (m.set i b)
 |[],[],_,i,_,_,_=>by simp[cr]
 |_::_,_::_,h,0,_,_,k=>⟨k,h.2⟩
 |_::_,_::_,h,i+1,_,_,k=>⟨h.1,cr.set h.2 k⟩
def MM(v:AV):Prop:=fJ v/\match v with
 | .sl _ _ _ _|.agg _=>False
 |_=>True
def zl5(S:Nat->Prop):Nat->Hp->AV->AV->Prop
 |0,_,_,_=>False
 |n+1,H,v,u=>match v with
  | .sl r Y U z=>S r/\r<H.next/\∃Z m V l,H.get r=some (.cells Z m V)/\m<=Z.length/\Y+U*z<=Z.length/\cr (zl5 S n H) ((Z.drop Y).take (U*z)) l/\u=.lst (gN z U l)
  | .agg Z=>∃O,cr (zl5 S n H) Z O/\u=.agg O
  |v=>fJ v/\u=v
theorem zl5.flat{S:Nat->Prop}{n:Nat}{H:Hp}{v:AV}(h:MM v):zl5 S (n+1) H v v:=by
 cases v<;>first|exact h.2.elim|exact⟨h.1,rfl⟩
def oY:=@zl5.flat
theorem zl5.up{S:Nat->Prop}{H:Hp}:∀{n m:Nat}{v u:AV},zl5 S n H v u->n<=m->zl5 S m H v u
 |0,_,_,_,h,_=>h.elim
 |n+1,0,_,_,_,hm=>by omega
 |n+1,m+1,v,u,h,hm=>by
  cases v with
  |sl r o len z=>
   obtain⟨Z,O,U,Y,V,l,j,M,K,J,I⟩:=h;exact⟨Z,O,U,Y,V,l,j,M,K,J.mono fun a b k=>zl5.up k ac,I⟩
  |agg U=>
   obtain⟨C,Z,j⟩:=h;exact⟨C,Z.mono fun a b k=>zl5.up k ac,j⟩
  |_=>exact h
def sY(a b:Option HB):Prop:=a=b\/∃z i j Y,a=some (.cells z i Y)/\b=some (.cells z j Y)/\(i<=z.length->j<=z.length)
theorem sY.trans{a b c:Option HB}(h:sY a b)(k:sY b c):sY a c:=by
 rcases h with rfl|⟨z,i,j,Y,rfl,rfl,h⟩
 .exact k
 .rcases k with rfl|⟨K,Z,m,O,e,rfl,k⟩
  .exact .inr ⟨z,i,j,Y,rfl,rfl,h⟩
  .simp only[aL,HB.cells.injEq]at e;obtain⟨rfl,rfl,rfl⟩:=e;exact .inr ⟨z,i,m,Y,rfl,rfl,fun q=>k (h q)⟩
theorem zl5.frame2{S S':Nat->Prop}{H H':Hp}(hS:∀k,k<H.next->S k->S' k)(I:H.next<=H'.next)(K:∀k,S k->k<H.next->sY (H.get k) (H'.get k)):∀{n:Nat}{v u:AV},zl5 S n H v u->zl5 S' n H' v u
 |0,_,_,h=>h.elim
 |n+1,v,u,h=>by
  cases v with
  |sl r off len z=>
   obtain⟨m,U,O,M,Y,l,V,C,o,h5,h6⟩:=h;have Z:=h5.mono fun a b k=>zl5.frame2 hS I K k;rcases K r m U with e|⟨cs',i,j,tip',J,e2,e3⟩
   .exact⟨hS r U m,ac,O,M,Y,l,by rw[<-e];exact V,C,o,Z,h6⟩
   .rw[V]at J;simp only[aL,HB.cells.injEq]at J;obtain⟨rfl,rfl,rfl⟩:=J;exact⟨hS r U m,ac,O,j,Y,l,e2,e3 C,o,Z,h6⟩
  |agg O=>
   obtain⟨ds,m,V⟩:=h;exact⟨ds,m.mono fun a b k=>zl5.frame2 hS I K k,V⟩
  |_=>exact h
theorem zl5.frame{S S':Nat->Prop}(hS:∀k,S k->S' k){H H':Hp}(J:H.next<=H'.next)(K:∀k,S k->k<H.next->sY (H.get k) (H'.get k)){n:Nat}{v u:AV}(h:zl5 S n H v u):zl5 S' n H' v u:=h.frame2 (fun k _ q=>hS k q) J K
structure Icy (S:Nat->Prop) (H H':Hp):Prop where
 next:H'.next=H.next
 out:∀k,¬S k->H'.get k=H.get k
 same:∀k,sY (H.get k) (H'.get k)
theorem Icy.refl(S:Nat->Prop)(H:Hp):Icy S H H:=⟨rfl,fun _ _=>rfl,fun _=>.inl rfl⟩
theorem Icy.trans{S:Nat->Prop}{a b c:Hp}(h:Icy S a b)(k:Icy S b c):Icy S a c:=⟨k.next.trans h.next,fun r hr=>(k.out r hr).trans (h.out r hr),fun r=>(h.same r).trans (k.same r)⟩
theorem Icy.ic{S S':Nat->Prop}{H H':Hp}(h:Icy S H H'){n:Nat}{v u:AV}(k:zl5 S' n H v u):zl5 S' n H' v u:=k.frame (fun _ q=>q) (kF h.next.symm) fun r _ _=>h.same r
theorem CZ{S:Nat->Prop}{n:Nat}(ih:∀{v u:AV}{H:Hp},zl5 S n H v u->∃H',fh n v H=some (u,H')/\Icy S H H'):∀{l m:List AV}{H:Hp},cr (zl5 S n H) l m->∃H',gO (fh n) l H=some (m,H')/\Icy S H H'
 |[],[],H,_=>⟨H,rfl,Icy.refl S H⟩
 |a::l,b::m,H,h=>by
  obtain⟨H1,Z,j⟩:=ih h.1;obtain⟨I,z,Y⟩:=CZ ih (l:=l) (m:=m) (H:=H1) (h.2.mono fun a b k=>j.ic k);exact⟨I,by simp only[gO,Z,z],j.trans Y⟩
theorem zl5.ice{S:Nat->Prop}:∀{n:Nat}{v u:AV}{H:Hp},zl5 S n H v u->∃H',fh n v H=some (u,H')/\Icy S H H'
 |0,_,_,_,h=>h.elim
 |n+1,v,u,H,h=>by
  cases v with
  |sl r Z U z=>
   obtain⟨K,h0,Y,m,V,l,j,J,C,h5,rfl⟩:=h;have M:Icy S H (H.set r (.cells Y (max m (Z+U*z)) V)):=by
    refine⟨rfl,fun k O=>by rw[aJ,af (fun e=>O (by rw[e];exact K))],fun k=>?_⟩;rw[aJ];split
    .rename_i e;subst e;exact .inr ⟨Y,m,max m (Z+U*z),V,j,rfl,fun _=>ac⟩
    .exact .inl rfl
   obtain⟨H',h6,h7⟩:=CZ (fun k=>zl5.ice k) (h5.mono fun a b k=>M.ic k);refine⟨H',?_,M.trans h7⟩;have e:fh (n+1) (.sl r Z U z) H=match H.get r with
    |some (.cells Y m V)=>match Nat.ble (Z+U*z) Y.length&&Nat.ble m Y.length with
     |true=>match gO (fh n) ((Y.drop Z).take (U*z)) (H.set r (.cells Y (max m (Z+U*z)) V))with
      |some (l',H)=>some (.lst (gN z U l'),H)
      |none=>none
     |false=>none
    |_=>none:=rfl
   rw[e,j];have e1:Nat.ble (Z+U*z) Y.length=true:=by rw[Nat.ble_eq];exact C
   have e2:Nat.ble m Y.length=true:=by rw[Nat.ble_eq];exact J
   simp only[e1,e2,vt,h6]
  |agg Y=>
   obtain⟨I,K,rfl⟩:=h;obtain⟨H',j,J⟩:=CZ (fun k=>zl5.ice k) K;refine⟨H',?_,J⟩;have e:fh (n+1) (.agg Y) H=match gO (fh n) Y H with
    |some (I,H)=>some (.agg I,H)
    |none=>none:=rfl
   rw[e,j]
  |ptr r o=>
   obtain⟨k,O⟩:=h.1;exact absurd (O (k+1) ac H) (by simp[iceV])
  |map r=>
   obtain⟨k,O⟩:=h.1;exact absurd (O (k+1) ac H) (by simp[iceV])
  |_=>exact⟨H,by rw[show u=_ from h.2];rfl,Icy.refl S H⟩
theorem zl5.iceL{S:Nat->Prop}{n:Nat}{l m:List AV}{H:Hp}(h:cr (zl5 S n H) l m):∃H',gO (fh n) l H=some (m,H')/\Icy S H H':=CZ (fun k=>zl5.ice k) h
theorem C0{S:Nat->Prop}{n:Nat}{H:Hp}(ih:∀{v u:AV},zl5 S n H v u->∃M,∀m,M<=m->iceV H m v=some u):∀{l k:List AV},cr (zl5 S n H) l k->∃M,∀m,M<=m->iceL (iceV H m) l=some k
 |[],[],_=>⟨0,fun _ _=>rfl⟩
 |a::l,b::k,h=>by
  obtain⟨zlH,Z⟩:=ih h.1;obtain⟨K,j⟩:=C0 ih (l:=l) (k:=k) h.2;exact⟨max zlH K,fun m V=>by simp only[iceL,Z m ac,j m ac]⟩
theorem zl5.iceV{S:Nat->Prop}{H:Hp}:∀{n:Nat}{v u:AV},zl5 S n H v u->∃M,∀m,M<=m->iceV H m v=some u
 |0,_,_,h=>h.elim
 |n+1,v,u,h=>by
  cases v with
  |sl r V U z=>
   obtain⟨K,h0,Y,o,j,l,h2,h3,h4,J,rfl⟩:=h;obtain⟨M,Z⟩:=C0 (fun k=>zl5.iceV k) J;refine⟨M+1,fun m O=>?_⟩;obtain⟨m,rfl⟩:∃k,m=k+1:=⟨m-1,ac⟩;have e:Ab.iceV H (m+1) (.sl r V U z)=match H.get r with
    |some (.cells Y _ _)=>match Ab.iceL (Ab.iceV H m) ((Y.drop V).take (U*z))with
     |some C=>if C.length=U*z then some (.lst (gN z U C))else none
     |none=>none
    |_=>none:=rfl
   have hl:l.length=U*z:=by rw[<-J.len,j6,lA];omega
   rw[e,h2];simp only[Z m ac,hl,dB]
  |agg Y=>
   obtain⟨I,K,rfl⟩:=h;obtain⟨M,Z⟩:=C0 (fun k=>zl5.iceV k) K;refine⟨M+1,fun m O=>?_⟩;obtain⟨m,rfl⟩:∃k,m=k+1:=⟨m-1,ac⟩;have e:Ab.iceV H (m+1) (.agg Y)=match Ab.iceL (Ab.iceV H m) Y with
    |some I=>some (.agg I)
    |none=>none:=rfl
   rw[e,Z m ac]
  |_=>
   obtain⟨k,hk⟩:=h.1;exact⟨k,fun m O=>by rw[hk m O H,h.2]⟩
theorem MN(z:Nat):∀(V:List (List AV)),(∀r∈V,r.length=z)->gN z V.length V.flatten=V
 |[],_=>rfl
 |r::V,h=>by
  have m:=h r ee;rw[mW,eK];show(r++V.flatten).take z::gN z V.length ((r++V.flatten).drop z)=_;rw[BG ac,gl ac,BS ac,BH ac,ly,MN z V fun q Z=>h q (el _ Z)]
theorem vN{z:Nat}:∀{V:List (List AV)},(∀r∈V,r.length=z)->V.flatten.length=V.length*z
 |[],_=>by simp
 |r::V,h=>by
  rw[mW,fj,h r ee,vN fun q Z=>h q (el _ Z),eK,tZ];omega
theorem cr.flat{p:AV->AV->Prop}:∀{a b:List (List AV)},cr (cr p) a b->cr p a.flatten b.flatten
 |[],[],_=>trivial
 |_::_,_::_,h=>by rw[mW,mW];exact h.1.append (cr.flat h.2)
theorem cr.rowlen{p:AV->AV->Prop}{z:Nat}:∀{a b:List (List AV)},cr (cr p) a b->(∀r∈a,r.length=z)->∀r∈b,r.length=z
 |[],[],_,_,r,hr=>by simp at hr
 |x::a,y::b,h,hz,r,hr=>by
  rcases fX.1 hr with rfl|hr
  .rw[<-h.1.len];exact hz x ee
  .exact cr.rowlen h.2 (fun q V=>hz q (el _ V)) r hr
theorem zl5.rows{S:Nat->Prop}{n:Nat}{H:Hp}{r z imm:Nat}{tip:Bool}{a b:List (List AV)}(hS:S r)(hr:r<H.next)(K:H.get r=some (.cells a.flatten imm tip))(I:imm<=a.flatten.length)(J:∀x∈a,x.length=z)(h:cr (cr (zl5 S n H)) a b):zl5 S (n+1) H (.sl r 0 a.length z) (.lst b):=by
 have M:=vN J;refine⟨hS,hr,a.flatten,imm,tip,b.flatten,K,I,ac,?_,?_⟩
 .rw[fH,gl ac];exact h.flat
 .rw[h.len,MN z b (h.rowlen J)]
theorem cm.wk{G:Gh}(n:Nat):∀{M:List AV}{vs:List Value},cm G M vs->cm G (M.map (bX n)) vs
 |[],vs,h=>h
 |a::l,[],h=>by have:=h.1;simp at this
 |a::l,v::vs,h=>by
  obtain⟨m,j⟩:=h.of_cons;exact mV (m.wk n) (cm.wk n j)
theorem bM.wkA{P:Program}{ρ:Nat->Int}{f:FuncId}{M:List AV}{r:AV}(n:Nat)(h:bM P ρ f (M.map (bX n)) r):bM P ρ f M r:=⟨h.1,fun G w vs m j z=>h.2 G w vs m j (z.wk n)⟩
def nW(e:En):En:=⟨e.f,e.ice,fun M=>e.sp (M.map (bX 60))⟩
theorem xw{P:Program}{ρ:Nat->Int}{e:En}(h:zl0 P ρ e):zl0 P ρ (nW e):=fun M r hr=>(h _ r hr).wkA 60
end Go.Ab
namespace Go.Proofs.YtpbcimfiofmoeaaGreat
set_option maxRecDepth 20000
open Go Go.Ab
def gC(H:Hp)(v:AV)(l:List Int)(lo:Nat):Prop:=∃r m,v=.sl r 0 l.length 1/\H.get r=some (.cells (l.map (.int .i64)) m true)/\m<=l.length/\lo<=r/\r<H.next
def gZ(H:Hp)(v:AV)(l:List Int)(lo:Nat):Prop:=(v=.nilS/\l=[])\/gC H v l lo
theorem gC.low{H H':Hp}{v:AV}{l:List Int}{lo:Nat}(h:gC H v l lo)(J:H.next<=H'.next)(K:∀k,lo<=k->k<H.next->H'.get k=H.get k):gC H' v l lo:=by
 obtain⟨r,m,Z,j,z,Y,V⟩:=h;exact⟨r,m,Z,by rw[K r Y V];exact j,z,Y,ac⟩
theorem gC.lt{H:Hp}{v:AV}{l:List Int}{lo:Nat}(h:gC H v l lo){k:Nat}(o:zlk v k):lo<=k/\k<H.next:=by
 obtain⟨r,m,rfl,_,_,Y,Z⟩:=h;obtain⟨n,e⟩:=o;simp only[AV.sl.injEq]at e;rw[<-e.1];exact⟨Y,Z⟩
theorem gZ.lt{H:Hp}{v:AV}{l:List Int}{lo:Nat}(h:gZ H v l lo){k:Nat}(o:zlk v k):lo<=k/\k<H.next:=by
 rcases h with⟨rfl,_⟩|h
 .obtain⟨n,e⟩:=o;simp at e
 .exact h.lt o
theorem gC.keep{H H':Hp}{v:AV}{l:List Int}{lo:Nat}(h:gC H v l lo)(J:H.next<=H'.next)(K:∀k,zlk v k->H'.get k=H.get k):gC H' v l lo:=by
 obtain⟨r,m,rfl,j,z,Y,Z⟩:=h;exact⟨r,m,rfl,CR,z,Y,ac⟩
theorem gZ.keep{H H':Hp}{v:AV}{l:List Int}{lo:Nat}(h:gZ H v l lo)(J:H.next<=H'.next)(K:∀k,zlk v k->H'.get k=H.get k):gZ H' v l lo:=h.imp id fun h=>h.keep J K
theorem C1(l:List Int):(l.map (AV.int .i64)).all AV.one=true:=by simp[AV.one]
theorem vO{H:Hp}{r imm:Nat}{m:List Int}(h:H.get r=some (.cells (m.map (.int .i64)) imm true)):zmM H 1 (.sl r 0 m.length 1)=some (m.length,m.map (.int .i64)):=by
 have:=sN (H:=H) (r:=r) (o:=0) (n:=m.length) (z:=1) (s:=1) h ax;rw[this,fH,gl ax]
theorem MO{H:Hp}{v x:AV}{l m:List Int}{lo:Nat}(I:gZ H v l lo)(K:lo<=H.next)(V:zmM H 1 x=some (m.length,m.map (.int .i64)))(z:m≠[])(C:l.length+m.length<2^40):
 ∃U H',zmc Tryz.prog false H 23 23 v x=some (U,H')/\gC H' U (l++m) lo/\H'.next=H.next+1/\(∀k,k<lo->H'.get k=H.get k)/\qW v U H H':=by
 obtain⟨n,J⟩:∃n,m.length=n+1:=⟨m.length-1,G9⟩;have Y:zmr=70368744177664:=rfl;rw[J]at V;rcases I with⟨rfl,rfl⟩|⟨r,Z,rfl,M,h3,h4,h5⟩
 .refine⟨.sl H.next 0 (n+1) 1,H.alloc (.cells (m.map (.int .i64)) 0 true),append_nil Tryz.underlying23 ki pS pT aj V (C1 m) rfl lM lM,⟨H.next,0,sU,iT,ac,K,cE _⟩,rfl,fun k o=>gk,fun k o _=>gk,fun k o=>.inr ?_⟩;obtain⟨n',e⟩:=o;simp only[AV.sl.injEq]at e;omega
 .have O:iC false H 1 (.sl r 0 l.length 1)=H:=by
   unfold iC;simp only[M,bL,cp,lV];have:Nat.blt l.length l.length=false:=by
    cases C:Nat.blt l.length l.length with
    |false=>rfl
    |true=>rw[jH]at C;omega
   simp[this]
  refine⟨.sl H.next 0 (l.length+(n+1)) 1,(H.kill r).alloc (.cells (l.map (.int .i64)++m.map (.int .i64)) (Z-0) true),?_,⟨H.next,Z,sU,?_,b9,K,cE _⟩,rfl,fun k o=>?_,fun k o j=>?_,fun k o=>.inr ?_⟩
  .simp only[zmc,Tryz.underlying23,ki,pS,pT,show znh Tryz.prog 23=true by kernel_rfl,V,C1,O,oM,dB,mU,znM,M,cp,bL,lV,fH];rw[am ⟨lM,lM,trivial,trivial,h3⟩];simp
  .show((H.kill r).alloc _).get (H.kill r).next=_
   rw[zkZ,am rfl];simp
  .rw[zkZ,af nh,znf,af ac]
  .rw[zkZ,af nh,znf,af (fun e=>j ⟨_,oL⟩)]
  .obtain⟨n',e⟩:=o;simp only[AV.sl.injEq]at e;omega
theorem Hu{H:Hp}{v:AV}{l:List Int}{lo r imm:Nat}(s:Int)(Z:gZ H v l lo)(K:lo<=H.next)(U:H.get r=some (.cells [.int .i64 s] imm true))(C:l.length<2^39):
 ∃o H',zmc Tryz.prog false H 23 23 v (.sl r 0 1 1)=some (o,H')/\gC H' o (l++[s]) lo/\H'.next=H.next+1/\(∀k,k<lo->H'.get k=H.get k)/\qW v o H H':=
 MO Z K (vO (m:=[s]) U) ax b9
theorem MP{H:Hp}{v w:AV}{l m:List Int}{lo lo':Nat}(Z:gC H v l lo)(K:lo<=H.next)(O:gZ H w m lo')(C:l.length+m.length<2^40):
 ∃o H',zmc Tryz.prog false H 23 23 v w=some (o,H')/\gC H' o (l++m) lo/\H.next<=H'.next/\(∀k,k<lo->H'.get k=H.get k)/\qW v o H H':=by
 by_cases V:m=[]
 .subst V;refine⟨v,H,?_,He,aB _,fun _ _=>rfl,fun _ _ _=>rfl,fun _ h=>.inl h⟩;obtain⟨r,U,rfl,j,_⟩:=Z;rcases O with⟨rfl,_⟩|⟨r',z,rfl,I,_⟩
  .simp only[zmc,Tryz.underlying23,ki,pS,pT,show znh Tryz.prog 23=true by kernel_rfl,zmM]
  .have Y:=vO I;simp only[eW]at Y;simp only[zmc,Tryz.underlying23,ki,pS,pT,show znh Tryz.prog 23=true by kernel_rfl,eW,Y]
 .rcases O with⟨_,h⟩|⟨r',z,rfl,I,_⟩
  .exact(V h).elim
  .obtain⟨o,H',M,j,h3,J⟩:=MO (.inr Z) K (vO I) V C;exact⟨o,H',M,j,ac,J⟩
theorem gC.len{H H':Hp}{v:AV}{l:List Int}{lo:Nat}(h:gC H v l lo):zlS Tryz.prog H' 23 v=some (.int .i64 l.length):=by
 obtain⟨r,m,rfl,_⟩:=h;exact znB Tryz.underlying23 _ _ _ _
theorem gC.at{H:Hp}{v:AV}{l:List Int}{lo:Nat}(h:gC H v l lo){i:Nat}(I:i<l.length):
 ∃r,zlO Tryz.prog 23 v (.int .i64 (i:Int))=some (.ptr r i)/\iN Tryz.prog H 3 (.ptr r i)=some (.int .i64 l[i]):=by
 obtain⟨r,m,rfl,j,_⟩:=h;refine⟨r,?_,?_⟩
 .rw[vy Tryz.underlying23 ki I];simp
 .rw[ub Tryz.underlying3 rfl j,eS,aT I];rfl
theorem Hv(l:List Int):gN 1 l.length (l.map (.int .i64))=l.map fun s=>[AV.int .i64 s]:=by
 induction l with
 |nil=>rfl
 |cons a l ih=>simp[gN,ih]
theorem MQ(n:Nat):∀(l:List Int) (H:Hp),gO (fh (n+1)) (l.map (.int .i64)) H=some (l.map (.int .i64),H)
 |[],H=>rfl
 |a::l,H=>by
  have:=MQ n l H;have e:fh (n+1) (.int .i64 a) H=some (.int .i64 a,H):=rfl;simp only[dM,gO,e,this]
theorem gC.ice{H:Hp}{v:AV}{l:List Int}{lo:Nat}(h:gC H v l lo)(n:Nat):
 ∃H',fh (n+2) v H=some (gI l,H')/\gC H' v l lo/\H'.next=H.next/\(∀k,k<lo->H'.get k=H.get k)/\∀k,¬zlk v k->H'.get k=H.get k:=by
 obtain⟨r,m,rfl,j,O,Z,V⟩:=h;refine⟨H.set r (.cells (l.map (.int .i64)) (max m l.length) true),?_,⟨r,max m l.length,rfl,gQ,ac,Z,V⟩,rfl,fun k o=>kE,fun k o=>by rw[aJ,af (fun e=>o ⟨_,oL⟩)]⟩;have e:fh (n+2) (.sl r 0 l.length 1) H=match H.get r with
  |some (.cells z m Y)=>match Nat.ble (0+l.length*1) z.length&&Nat.ble m z.length with
   |true=>match gO (fh (n+1)) ((z.drop 0).take (l.length*1)) (H.set r (.cells z (max m (0+l.length*1)) Y))with
    |some (J,H)=>some (.lst (gN 1 l.length J),H)
    |none=>none
   |false=>none
  |_=>none:=rfl
 rw[e,j];simp only[cp,bL,lV,fH];have U:Nat.ble l.length l.length=true:=CS;have K:Nat.ble m l.length=true:=CS;rw[U,K];simp only[vt];rw[gl ax,MQ];simp only[Hv]
def uk(H:Hp)(v:AV)(l:List Int)(lo:Nat):Prop:=∃r,v=.sl r 0 l.length 1/\H.get r=some (.cells (l.map (.int .i64)) 0 true)/\lo<=r/\r<H.next
def je(H:Hp)(v:AV)(l:List Int)(lo:Nat):Prop:=(v=.nilS/\l=[])\/uk H v l lo
theorem uk.b{H:Hp}{v:AV}{l:List Int}{lo:Nat}(h:uk H v l lo):gC H v l lo:=by
 obtain⟨r,m,j,z,Y⟩:=h;exact⟨r,0,m,j,dm _,z,Y⟩
theorem je.n{H:Hp}{v:AV}{l:List Int}{lo:Nat}(h:je H v l lo):gZ H v l lo:=h.imp id fun h=>h.b
theorem uk.keep{H H':Hp}{v:AV}{l:List Int}{lo:Nat}(h:uk H v l lo)(J:H.next<=H'.next)(K:∀k,zlk v k->H'.get k=H.get k):uk H' v l lo:=by
 obtain⟨r,rfl,j,Y,Z⟩:=h;exact⟨r,rfl,CR,Y,ac⟩
theorem je.keep{H H':Hp}{v:AV}{l:List Int}{lo:Nat}(h:je H v l lo)(J:H.next<=H'.next)(K:∀k,zlk v k->H'.get k=H.get k):je H' v l lo:=h.imp id fun h=>h.keep J K
theorem Hw{H:Hp}{v x:AV}{l m:List Int}{lo:Nat}(M:je H v l lo)(K:lo<=H.next)(Z:zmM H 1 x=some (m.length,m.map (.int .i64)))(I:m≠[])(C:l.length+m.length<2^40):
 ∃V H',zmc Tryz.prog false H 23 23 v x=some (V,H')/\uk H' V (l++m) lo/\H'.next=H.next+1/\(∀k,k<lo->H'.get k=H.get k)/\qW v V H H':=by
 obtain⟨n,J⟩:∃n,m.length=n+1:=⟨m.length-1,by have:=vK.2 I;omega⟩;have Y:zmr=70368744177664:=rfl;rw[J]at Z;rcases M with⟨rfl,rfl⟩|⟨r,rfl,O,h4,h5⟩
 .refine⟨.sl H.next 0 (n+1) 1,H.alloc (.cells (m.map (.int .i64)) 0 true),append_nil Tryz.underlying23 ki pS pT aj Z (C1 m) rfl lM lM,⟨H.next,sU,iT,K,cE _⟩,rfl,fun k o=>gk,fun k o _=>gk,fun k o=>.inr ?_⟩;obtain⟨z,e⟩:=o;simp only[AV.sl.injEq]at e;omega
 .have U:iC false H 1 (.sl r 0 l.length 1)=H:=by
   unfold iC;simp only[O,bL,cp,lV];have:Nat.blt l.length l.length=false:=by
    cases C:Nat.blt l.length l.length with
    |false=>rfl
    |true=>rw[jH]at C;omega
   simp[this]
  refine⟨.sl H.next 0 (l.length+(n+1)) 1,(H.kill r).alloc (.cells (l.map (.int .i64)++m.map (.int .i64)) (0-0) true),?_,⟨H.next,sU,?_,K,cE _⟩,rfl,fun k o=>?_,fun k o j=>?_,fun k o=>.inr ?_⟩
  .simp only[zmc,Tryz.underlying23,ki,pS,pT,show znh Tryz.prog 23=true by kernel_rfl,Z,C1,U,oM,dB,mU,znM,O,cp,bL,lV,fH];rw[am ⟨lM,lM,trivial,trivial,dm _⟩];simp
  .show((H.kill r).alloc _).get (H.kill r).next=_
   rw[zkZ,am rfl];simp
  .rw[zkZ,af nh,znf,af ac]
  .rw[zkZ,af nh,znf,af (fun e=>j ⟨_,oL⟩)]
  .obtain⟨z,e⟩:=o;simp only[AV.sl.injEq]at e;omega
theorem zvs{H:Hp}{v:AV}{l:List Int}{lo r imm:Nat}(s:Int)(Z:je H v l lo)(K:lo<=H.next)(U:H.get r=some (.cells [.int .i64 s] imm true))(C:l.length<2^39):
 ∃o H',zmc Tryz.prog false H 23 23 v (.sl r 0 1 1)=some (o,H')/\uk H' o (l++[s]) lo/\H'.next=H.next+1/\(∀k,k<lo->H'.get k=H.get k)/\qW v o H H':=
 Hw Z K (vO (m:=[s]) U) ax b9
theorem zdx(n:Nat):mw [.int .i64 0] n=(List.replicate n (0:Int)).map (.int .i64):=by
 induction n with
 |zero=>rfl
 |succ n ih=>simp only[mw,ih];simp[Hh]
theorem zdy(n:Nat):mw [.bool false] n=(List.replicate n false).map .bool:=by
 induction n with
 |zero=>rfl
 |succ n ih=>simp only[mw,ih];simp[Hh]
theorem zdz{H:Hp}(n c:Nat)(h:n<=c)(z:c<2^40):znz Tryz.prog H 23 (.int .i64 n) (.int .i64 c)=some (.sl H.next 0 n 1,H.alloc (.cells ((List.replicate n (0:Int)).map (.int .i64)) 0 true)):=by
 have V:zmr=70368744177664:=rfl;show znz Tryz.prog H 23 (.int .i64 (Int.ofNat n)) (.int .i64 (Int.ofNat c))=_;simp only[znz,Tryz.underlying23,ki,pS,pT];rw[am ⟨h,qS,qS,rfl⟩,zdx]
theorem zdA{H:Hp}(n:Nat)(z:n<2^40):znz Tryz.prog H 84 (.int .i64 n) (.int .i64 n)=some (.sl H.next 0 n 1,H.alloc (.cells ((List.replicate n false).map .bool) 0 true)):=by
 have V:zmr=70368744177664:=rfl;show znz Tryz.prog H 84 (.int .i64 (Int.ofNat n)) (.int .i64 (Int.ofNat n))=_;simp only[znz,Tryz.underlying84,Cu,LF,LH];rw[am ⟨aB _,qS,qS,rfl⟩,zdy]
theorem splice_one(cs:List AV){o:Nat}(J:o<cs.length)(x:AV):splice cs o [x]=cs.set o x:=by
 rw[Gw,List.set_eq_take_append_cons_drop,am J];simp
theorem zO{H:Hp}{r o:Nat}{cs:List AV}(K:H.get r=some (.cells cs 0 true))(J:o<cs.length)(n:Int):lS Tryz.prog H 3 (.ptr r o) (.int .i64 n)=some (H.set r (.cells (cs.set o (.int .i64 n)) 0 true)):=by
 rw[Cn,K,ki,Cm,cells_int,splice_one cs J,am ⟨rfl,dm _,J,rfl⟩]
theorem zvt{H:Hp}{r o:Nat}{cs:List AV}(K:H.get r=some (.cells cs 0 true))(J:o<cs.length)(b:Bool):lS Tryz.prog H 4 (.ptr r o) (.bool b)=some (H.set r (.cells (cs.set o (.bool b)) 0 true)):=by
 rw[Cn,K,Cu,Cm,Lt,splice_one cs J,am ⟨rfl,dm _,J,rfl⟩]
theorem MR(H:Hp)(n:Nat):∀l:List Int,iceL (iceV H (n+1)) (l.map (.int .i64))=some (l.map (.int .i64))
 |[]=>rfl
 |a::l=>by
  have:=MR H n l;have e:iceV H (n+1) (.int .i64 a)=some (.int .i64 a):=rfl;simp only[dM,iceL,e,this]
theorem gC.iceV{H:Hp}{v:AV}{l:List Int}{lo:Nat}(h:gC H v l lo)(n:Nat):iceV H (n+2) v=some (gI l):=by
 obtain⟨r,m,rfl,j,_⟩:=h;have e:Ab.iceV H (n+2) (.sl r 0 l.length 1)=match H.get r with
  |some (.cells z _ _)=>match iceL (Ab.iceV H (n+1)) ((z.drop 0).take (l.length*1))with
   |some J=>if J.length=l.length*1 then some (.lst (gN 1 l.length J))else none
   |none=>none
  |_=>none:=rfl
 rw[e,j];simp only[fH,lV];rw[gl ax,MR];simp only[cp,dB,Hv]
def kG(H:Hp)(v:AV)(l:List Int)(lo:Nat):Prop:=∃r m,v=.sl r 0 l.length 1/\H.get r=some (.cells (l.map (.int .u8)) m true)/\m<=l.length/\lo<=r/\r<H.next
def C2(H:Hp)(v:AV)(l:List Int)(lo:Nat):Prop:=(v=.nilS/\l=[])\/kG H v l lo
theorem kG.low{H H':Hp}{v:AV}{l:List Int}{lo:Nat}(h:kG H v l lo)(J:H.next<=H'.next)(K:∀k,lo<=k->k<H.next->H'.get k=H.get k):kG H' v l lo:=by
 obtain⟨r,m,Z,j,z,Y,V⟩:=h;exact⟨r,m,Z,by rw[K r Y V];exact j,z,Y,ac⟩
theorem kG.lt{H:Hp}{v:AV}{l:List Int}{lo:Nat}(h:kG H v l lo){k:Nat}(o:zlk v k):lo<=k/\k<H.next:=by
 obtain⟨r,m,rfl,_,_,Y,Z⟩:=h;obtain⟨n,e⟩:=o;simp only[AV.sl.injEq]at e;rw[<-e.1];exact⟨Y,Z⟩
theorem kG.keep{H H':Hp}{v:AV}{l:List Int}{lo:Nat}(h:kG H v l lo)(J:H.next<=H'.next)(K:∀k,zlk v k->H'.get k=H.get k):kG H' v l lo:=by
 obtain⟨r,m,rfl,j,z,Y,Z⟩:=h;exact⟨r,m,rfl,CR,z,Y,ac⟩
theorem MS(l:List Int):(l.map (AV.int .u8)).all AV.one=true:=by simp[AV.one]
theorem zvu{H:Hp}{r imm:Nat}{m:List Int}(h:H.get r=some (.cells (m.map (.int .u8)) imm true)):zmM H 1 (.sl r 0 m.length 1)=some (m.length,m.map (.int .u8)):=by
 have:=sN (H:=H) (r:=r) (o:=0) (n:=m.length) (z:=1) (s:=1) h ax;rw[this,fH,gl ax]
theorem zvv{H:Hp}{v x:AV}{l m:List Int}{lo:Nat}(I:C2 H v l lo)(K:lo<=H.next)(V:zmM H 1 x=some (m.length,m.map (.int .u8)))(z:m≠[])(C:l.length+m.length<2^40):
 ∃U H',zmc Tryz.prog false H 93 93 v x=some (U,H')/\kG H' U (l++m) lo/\H'.next=H.next+1/\(∀k,k<lo->H'.get k=H.get k)/\qW v U H H':=by
 obtain⟨n,J⟩:∃n,m.length=n+1:=⟨m.length-1,G9⟩;have Y:zmr=70368744177664:=rfl;rw[J]at V;rcases I with⟨rfl,rfl⟩|⟨r,Z,rfl,M,h3,h4,h5⟩
 .refine⟨.sl H.next 0 (n+1) 1,H.alloc (.cells (m.map (.int .u8)) 0 true),append_nil Tryz.underlying93 GE GF GG aj V (MS m) rfl lM lM,⟨H.next,0,sU,iT,ac,K,cE _⟩,rfl,fun k o=>gk,fun k o _=>gk,fun k o=>.inr ?_⟩;obtain⟨n',e⟩:=o;simp only[AV.sl.injEq]at e;omega
 .have O:iC false H 1 (.sl r 0 l.length 1)=H:=by
   unfold iC;simp only[M,bL,cp,lV];have:Nat.blt l.length l.length=false:=by
    cases C:Nat.blt l.length l.length with
    |false=>rfl
    |true=>rw[jH]at C;omega
   simp[this]
  refine⟨.sl H.next 0 (l.length+(n+1)) 1,(H.kill r).alloc (.cells (l.map (.int .u8)++m.map (.int .u8)) (Z-0) true),?_,⟨H.next,Z,sU,?_,b9,K,cE _⟩,rfl,fun k o=>?_,fun k o j=>?_,fun k o=>.inr ?_⟩
  .simp only[zmc,Tryz.underlying93,GE,GF,GG,show znh Tryz.prog 93=true by kernel_rfl,V,MS,O,oM,dB,mU,znM,M,cp,bL,lV,fH];rw[am ⟨lM,lM,trivial,trivial,h3⟩];simp
  .show((H.kill r).alloc _).get (H.kill r).next=_
   rw[zkZ,am rfl];simp
  .rw[zkZ,af nh,znf,af ac]
  .rw[zkZ,af nh,znf,af (fun e=>j ⟨_,oL⟩)]
  .obtain⟨n',e⟩:=o;simp only[AV.sl.injEq]at e;omega
theorem MT{H:Hp}{v:AV}{l:List Int}{lo r imm:Nat}(s:Int)(Z:C2 H v l lo)(K:lo<=H.next)(U:H.get r=some (.cells [.int .u8 s] imm true))(C:l.length<2^39):
 ∃o H',zmc Tryz.prog false H 93 93 v (.sl r 0 1 1)=some (o,H')/\kG H' o (l++[s]) lo/\H'.next=H.next+1/\(∀k,k<lo->H'.get k=H.get k)/\qW v o H H':=
 zvv Z K (zvu (m:=[s]) U) ax b9
theorem MU(H:Hp)(n:Int):zmb Tryz.prog H 93 1 [(0,.int .u8 n)]=some (.sl H.next 0 1 1,H.alloc (.cells [.int .u8 n] 0 true)):=aj
theorem bin_shr{D:BinOp->Sx->Sx->Option Bool}{t:TypeId}{k C:IntKind}{a:Int}{m:Nat}(h:m<64)(o:k=.u64):zmt Tryz.prog D .shr t (.int k a) (.int C (m:Int))=some (.int k (a.fdiv (2^ m))):=by
 subst o;have e:zmt Tryz.prog D .shr t (.int .u64 a) (.int C (Int.ofNat m))=some (.int .u64 (a.fdiv (2^ min m 64))):=rfl;rw[show min m 64=m by omega]at e;exact e
def ml(n:Int)(i:Nat):Int:=IntKind.wrap .u8 (n.fdiv (2^ (8*i)))
def zm4(n:Int)(i:Nat):List Int:=(List.range i).map (ml n)
theorem znT(n:Int)(i:Nat):(zm4 n i).length=i:=by simp[zm4]
theorem MV(n:Int)(i:Nat):zm4 n (i+1)=zm4 n i++[ml n i]:=by simp[zm4,zH]
def sZ(l:List Int):List UInt8:=l.map fun n=>UInt8.ofNat n.toNat
end Go.Proofs.YtpbcimfiofmoeaaGreat
namespace Go.Ab
set_option maxRecDepth 20000
open Go
instance:DecidableEq Nd:=fun x y=>decidable_of_iff (x.op=y.op/\x.imm=y.imm/\x.kids=y.kids) (by cases x;cases y;simp)
def eu(op:Int):Int×Bool:=
 if op=1\/op=2\/op=3\/op=26 then (0,true)
 else if op=20\/op=21\/op=24\/op=25 then (1,true)
 else if op=23\/op=27\/op=29 then (2,true)
 else if op=22\/op=28 then (3,true)
 else if op=30\/op=31 then (-1,true)
 else if 4<=op/\op<=19 then (2,true)
 else (0,false)
def eC(n:Int):Int:=(n-1).tdiv 2
def xy(l:List Nd)(k:Int):Int:=match l[k.toNat]? with
 |some n=>n.kids.length
 |none=>0
def jz(l:List Nd)(n:Nd):Int:=
 if n.op=2 then 5 else if n.op=3 then 255 else if n.op=23\/n.op=28 then 3 else if n.op=30 then 7 else if n.op=31 then 15
 else if n.op=25 then eC (xy l (n.kids.headD 0))-1 else 0
def eN(l:List Nd)(n:Nd):Bool:=
 if n.op=1 then true
 else if n.op=27 then decide (1<=n.imm)&&decide (n.imm<=1000016)
 else decide (0<=n.imm)&&decide (n.imm<=jz l n)
def iG(op:Int):List Int:=
 if op=22 then [1,1,1]else if op=23\/op=27\/op=29 then [2,1]else if op=28 then [2,1,1]else if op=24 then [2]else if op=25 then [3]else [1,1]
def zmH:List Int->List Int->Bool
 |[],_=>true
 |a::s,w=>decide (a=w.headD 0)&&zmH s w.tail
def mn(n:Nat):List Int:=((List.replicate n (1:Int)).set 0 2).set (eC n+1).toNat 2
def zmo(op:Int)(s:List Int):Bool:=
 if (eu op).2=false then false
 else if 0<=(eu op).1/\(eu op).1≠s.length then false
 else if op=31 then decide (3<=s.length)&&decide (s.length%2=1)&&decide (eC s.length<=16)&&zmH s (mn s.length)
 else if op=30 then decide (1<=s.length)&&decide (s.length<=7)&&decide (s.headD 0=2)&&s.tail.all fun x=>decide (x=1)
 else if op=22/\s.getD 1 0=2 then decide (s.headD 0=1)&&decide (s.getD 2 0=2)
 else zmH s (iG op)
def zmU(i:Nat)(I:List Int):List Int->Option (List Int)
 |[]=>some []
 |k::ks=>if k<0\/(i:Int)<=k\/I.getD k.toNat 0=0 then none else (zmU i I ks).map fun s=>I.getD k.toNat 0::s
def jL(n:Nd)(s:List Int):Int:=
 if n.op=31 then 3
 else if n.op=26\/n.op=27\/n.op=28\/n.op=29\/n.op=30 then 2
 else if n.op=22 then s.getD 1 0
 else if n.op=3/\n.imm.tmod 16=0 then 2
 else if n.op=25/\n.imm=0 then 2
 else 1
def kY(l:List Nd)(i:Nat)(I:List Int):Int:=match l[i]? with
 |none=>0
 |some n=>match zmU i I n.kids with
  |none=>0
  |some s=>if zmo n.op s&&eN l n then jL n s else 0
def zmC(l:List Nd):Nat->List Int
 |0=>[]
 |i+1=>zmC l i++[kY l i (zmC l i)]
def jf(l:List Nd)(i:Int):Int:=if i<0\/(l.length:Int)<=i then 0 else (zmC (l.take (i.toNat+1)) (i.toNat+1)).getD i.toNat 0
theorem qY(l:List Nd):∀i,(zmC l i).length=i
 |0=>rfl
 |i+1=>by rw[zmC,fj,qY l i];rfl
theorem Hx(l:List Nd):∀{i j:Nat},j<i->(zmC l i).getD j 0=kY l j (zmC l j)
 |0,j,h=>by omega
 |i+1,j,h=>by
  rw[zmC];by_cases e:j<i
  .rw[dx,jG (by rw[qY];exact e),<-dx];exact Hx l e
  .obtain rfl:j=i:=by omega
   rw[dx,nK (by rw[qY];omega),qY,oG];rfl
theorem ul{i:Nat}{I:List Int}:∀{M s:List Int},zmU i I M=some s->∀k∈M,0<=k/\k<i/\I.getD k.toNat 0≠0
 |[],s,_,k,h=>by simp at h
 |a::M,s,h,k,o=>by
  rw[zmU]at h;split at h
  .cases h
  .rename_i c;obtain⟨t,j,_⟩:=sA.1 h;rcases fX.1 o with rfl|o
   .omega
   .exact ul j k o
theorem zP{i:Nat}{I:List Int}:∀{M s:List Int},zmU i I M=some s->s.length=M.length
 |[],s,h=>by cases h;rfl
 |a::M,s,h=>by
  rw[zmU]at h;split at h
  .cases h
  .obtain⟨t,j,rfl⟩:=sA.1 h;rw[eK,eK,zP j]
theorem Hy{l:List Nd}{i:Nat}{I:List Int}{n:Nd}(J:l[i]?=some n)(h:kY l i I≠0):∃s,zmU i I n.kids=some s/\zmo n.op s=true/\eN l n=true:=by
 unfold kY at h;rw[J]at h;simp only at h;split at h
 .exact absurd rfl h
 .rename_i s U;split at h
  .rename_i c;rw[co]at c;exact⟨s,U,c.1,c.2⟩
  .exact absurd rfl h
theorem MW{l:List Nd}{m:Nat}{n:Nd}(h:n.op=25->∃k M,n.kids=k::M/\k.toNat<m):eN (l.take m) n=eN l n:=by
 have e:jz (l.take m) n=jz l n:=by
  unfold jz;by_cases c:n.op=25
  .obtain⟨k,M,Z,j⟩:=h c;rw[c];simp only[Z,zI,xy,rD,j,dB]
  .simp only[c,dL]
 unfold eN;rw[e]
theorem zqz{l:List Nd}{i m:Nat}(Y:i<m)(I:List Int):kY (l.take m) i I=kY l i I:=by
 unfold kY;rw[rD,am Y];cases J:l[i]? with
 |none=>rfl
 |some n=>
  simp only;cases o:zmU i I n.kids with
  |none=>rfl
  |some s=>
   simp only;by_cases c:zmo n.op s=true
   .have e:eN (l.take m) n=eN l n:=MW fun Z=>by
     have M:=zP o;have U:s.length=1:=by
      have j:=c;unfold zmo at j;rw[Z]at j;have:eu 25=(1,true):=aE;rw[this]at j;simp only at j;split at j
      .cases j
      .split at j
       .cases j
       .omega
     cases V:n.kids with
     |nil=>rw[V,U]at M;simp at M
     |cons k K=>
      refine⟨k,K,rfl,?_⟩;have:=ul o k (by rw[V];exact ee);omega
    rw[e]
   .have O:zmo n.op s=false:=by simpa using c
    rw[O,gy,gy]
theorem HA{l:List Nd}{m:Nat}:∀{i:Nat},i<=m->zmC (l.take m) i=zmC l i
 |0,_=>rfl
 |i+1,h=>by rw[zmC,zmC,HA (by omega:i<=m),zqz ac]
theorem xz{l:List Nd}{i:Nat}(h:i<l.length):jf l i=kY l i (zmC l i):=by
 unfold jf;rw[af ac,ja,HA (aB _),Hx l (cE i)]
theorem C3{l:List Nd}{i j:Nat}(o:j<i)(I:i<=l.length):(zmC l i).getD j 0=jf l j:=by
 rw[Hx l o,xz ac]
theorem MX{l m:List Nd}{i:Nat}(h:i<l.length):jf (l++m) i=jf l i:=by
 unfold jf;rw[af b9,af ac,ja,BG ac]
def vP(k:List Int):Bool:=k.all fun x=>decide (x=1)
theorem HC:∀(s w:List Int),s.length<=w.length->(∀x∈w,x=1)->zmH s w=vP s
 |[],w,_,_=>by simp[zmH,vP]
 |a::s,[],h,_=>by simp at h
 |a::s,b::w,h,hw=>by
  have C:=hw b ee;subst C;rw[zmH,zI,List.tail_cons,HC s w j8 (fun x hx=>hw x (el _ hx))];simp[vP]
theorem C4(a b:Int)(s w:List Int):zmH (a::s) (b::w)=(decide (a=b)&&zmH s w):=rfl
theorem zls(n m:Nat)(h:m<n):(List.replicate n (1:Int)).set m 2=List.replicate m 1++2::List.replicate (n-m-1) 1:=by
 apply GD;intro i;rw[oJ,List.getElem?_append];simp only[qU];by_cases c:i<m
 .rw[af ac,am c,xr,xr,am ac,am c]
 .rw[af c];by_cases e:m=i
  .subst e;simp[h]
  .rw[af e];obtain⟨j,rfl⟩:∃j,i=m+1+j:=⟨i-m-1,ac⟩;rw[show m+1+j-m=j+1 by omega,xi,xr,xr];by_cases g:m+1+j<n
   .rw[am g,am ac]
   .rw[af g,af ac]
theorem MY:∀(a s w v:List Int),a.length=w.length->zmH (a++s) (w++v)=(zmH a w&&zmH s v)
 |[],s,[],v,_=>by simp[zmH]
 |x::a,s,y::w,v,h=>by
  rw[lI,lI,C4,C4,MY a s w v j8,CW]
 |[],_,_::_,_,h=>by simp at h
 |_::_,_,[],_,h=>lY
theorem C5(n:Nat)(h:1<=n):eC n=((n-1)/2:Nat):=by
 unfold eC;rw[show(n:Int)-1=((n-1:Nat):Int) by omega];rfl
theorem zqB(s:List Int)(h:3<=s.length)(I:s.length%2=1):zmH s (mn s.length)=(decide (s.headD 0=2)&&vP ((s.drop 1).take (s.length/2))&&decide (s.getD (s.length/2+1) 0=2)&&vP (s.drop (s.length/2+2))):=by
 obtain⟨m,V⟩:∃m,s.length=2*m+1:=⟨s.length/2,ac⟩;have j:1<=m:=ac;have Y:s.length/2=m:=ac;have U:(eC s.length+1).toNat=m+1:=zG;have K:mn s.length=2::(List.replicate m 1++2::List.replicate (m-1) 1):=by
  unfold mn;rw[U,V];have C:List.replicate (2*m+1) (1:Int)=1::List.replicate (2*m) 1:=rfl;rw[C,CX,Hk,zls _ _ ac]
  congr 4;omega
 rw[K,Y]
 match s,V with
 |a::t,V=>
  have z:t.length=2*m:=wT;rw[C4,zI,zC,fH];have hd:t=t.take m++t.drop m:=(FA m t).symm;have M:(t.take m).length=m:=yT
  conv=>lhs;rw[hd]
  rw[MY _ _ _ _ (by rw[M];simp),HC (t.take m) _ (by rw[M];simp) (fun x hx=>zJ hx)];have J:(a::t).getD (m+1) 0=t.getD m 0:=rfl;have O:(a::t).drop (m+2)=t.drop (m+1):=rfl;rw[J,O];have Z:t.drop m=t.getD m 0::t.drop (m+1):=by
   rw[fS ac,dx,aT ac];rfl
  rw[Z,C4,HC (t.drop (m+1)) _ b9 (fun x hx=>zJ hx),CW,CW]
theorem zdH{Z:Type}{s:List Z}(h:s.length=1):∃a,s=[a]:=by
 match s,h with
 |[a],_=>exact⟨a,rfl⟩
theorem zdI{Z:Type}{s:List Z}(h:s.length=3):∃a b c,s=[a,b,c]:=by
 match s,h with
 |[a,b,c],_=>exact⟨a,b,c,rfl⟩
end Go.Ab
namespace Go.Proofs.YtpbcimfiofmoeaaGreat
set_option maxRecDepth 20000
open Go Go.Ab
section
def tyR3b.tyF:=ad @cJ (ad @dd (ad @em (ad @en (ad @zms (ad @eY (@ec))))))
open tyR3b
noncomputable def MZ:{c:SC // aC 22 (Tryz.f104.body.getD .skip)=c}:=by
 refine⟨?_,?_⟩;rotate_left
 .simp only[Tryz.f104,bI,aC,zll,zle,zlp,zln,Nat.blt,Nat.ble];rfl
noncomputable def M0:{c:SC // aC 78 (Tryz.f102.body.getD .skip)=c}:=by
 refine⟨?_,?_⟩;rotate_left
 .simp only[Tryz.f102,bI,aC,zll,zle,zlp,zln,Nat.blt,Nat.ble];rfl
mutual
def zl6:Ex->Nat
 | .mk _ _ _ _ M=>jM M
def jM:List Ex->Nat
 |[]=>0
 |e::es=>max (1+zl6 e) (jM es)
end
theorem zzP(x:Ex):zl6 x=jM x.kids:=by cases x;rw[zl6];rfl
mutual
theorem M1:∀x:Ex,zl6 x<=x.sz
 | .mk _ _ _ _ M=>by have:=M2 M;simp only[zl6,Ex.sz];omega
theorem M2:∀l:List Ex,jM l<=zlZ l
 |[]=>aB _
 |e::es=>by have:=M1 e;have:=M2 es;simp only[jM,zlZ];omega
end
def jN(x:Ex):List AV:=[.agg x.cells]
theorem qZ(x y:Ex)(h:jN x=jN y):x=y:=by simp only[jN,ea,AV.agg.injEq,aR]at h;exact Ex.inj h
def nn(l:List St):List AV:=[.lst (l.map St.cells)]
theorem xA(x y:List St)(h:nn x=nn y):x=y:=by simp only[nn,ea,AV.lst.injEq,aR]at h;exact CO h
theorem ztk(ρ:Nat->Int):∀x:Ex,x.sz<2^60->bM Tryz.prog ρ 104 [.agg x.cells] (.int .i64 (zl6 x)):=
 vI fit (pls:=pls) (l:=[]) trivial (fun x=>x.sz) (ok:=fun x=>x.sz<2^60) (enc:=jN) (out:=fun x=>.int .i64 (zl6 x)) (fun x _=>.cons (.agg x.pure) .nil) (fun x _=>.int _ _) (fun x hx=>by
 have O:=sW (sz:=fun x:Ex=>x.sz) (ok:=fun x=>x.sz<2^60) (out:=fun x=>.int .i64 (zl6 x)) qZ (f:=104) (l:=[]) x;generalize hl:(⟨104,false,b7 (fun y=>y.sz<2^60/\y.sz<x.sz) jN fun x=>.int .i64 (zl6 x)⟩:En)::[]=l at O⊢;have kr:∀y:Ex,y.sz<2^60->y.sz<x.sz->∀H,zk5 Tryz.prog (zkY pls l) 104 [.agg y.cells] H fun v H'=>v=.int .i64 (zl6 y)/\H'=H:=fun y h1 h2 H=>by
  subst hl;exact zlM (enc:=jN) (out:=fun x=>.int .i64 (zl6 x)) qZ (x:=y) rfl ⟨h1,h2⟩
 have hsz:=x.sz_eq;have o:=znJ x.kids;have hlk:x.kids.length<2^60:=ac;have hdl:=M1 x;change zk5 _ _ _ [.agg x.cells] _ _;refine zlf (M:=22) (rs:=[.tmp 2]) O.call O.ice O.froz Tryz.func104 rfl rfl MZ.2 rfl ?_;dsimp only[MZ,zD,Nat.reduceAdd];repeat' (first
  |(apply ah ?_;clear hK K)|apply Rx.o ?_|apply ak ?_|(apply zkU fun K hK=>?_)|apply aG ?_|fail)
 refine zlL [1] [0] 4 x.kids.length (fun i E H=>∃m:Nat,E.at 3=.int .i64 m/\max m (jM (x.kids.drop i))=zl6 x) eE ⟨0,eE,by simp[zzP]⟩ ?_;rintro i E I hi Y V U hsI ⟨m,k3,z⟩;(try simp only[zlm,zlb,aR,zk1,zk7,Nat.reduceBEq, *]at Y);(try simp only[zlm,zlb,aR,zk1,zk7, *]at V);(try simp only[zk9,zlI,bL]at U);have hB0:(0 == I.next)=false:=zkV ac;have hC0:(I.next == 0)=false:=zkV ac;repeat' (first
  |(apply ah ?_;clear hK K)|apply Rx.o ?_|(apply a0 (fun Z j=>?_) (fun Z j=>?_)<;>try(cases Z;done))|apply ak ?_|(apply zkU fun K hK=>?_)|apply aG ?_|apply zk3 ?_|apply aF ?_|apply zlu ?_)
 .have C:i<x.kids.length:=by simpa using Z
  have hgx:x.kids[i]?=some x.kids[i]:=aT C;have hm:=znK (cR C);have J:jM (x.kids.drop i)=max (1+zl6 x.kids[i]) (jM (x.kids.drop (i+1))):=sV;have hwr:IntKind.wrap .i64 (1+(zl6 x.kids[i]:Int))=((1+zl6 x.kids[i]:Nat):Int):=CV;repeat' (first
   |(apply ah ?_;clear hK K)|apply Rx.o ?_|(apply eM ?_;first|refine zlc (kr _ ac ac _) ?_)|(apply zkU fun K hK=>?_)|fail)
  refine⟨ac,zk8,zk8,zlF,Hf,?_⟩;exact⟨max m (1+zl6 x.kids[i]),by simp only[zk1,Nat.reduceBEq];congr 1;omega,by rw[<-z,J];omega⟩
 .all_goals (refine⟨eI,_,eR,?_⟩;try simp only[zkX])
  rw[show i=x.kids.length by simp at Z;omega,gT]at z;simp[jM]at z;rw[z])
mutual
def zlQ:St->Nat
 | .mk _ _ _ _ _ _ _ j m=>1+nS j+nS m
def nS:List St->Nat
 |[]=>0
 |x::l=>zlQ x+nS l
end
mutual
def zlG:St->Nat
 | .mk k _ _ _ _ _ _ j m=>(if k=4 then 1 else 0)+zl3 j+zl3 m
def zl3:List St->Nat
 |[]=>0
 |x::l=>zlG x+zl3 l
end
mutual
def zlH:St->Nat->Nat
 | .mk _ _ _ _ _ _ _ j m,d=>max d (max (zmB j (d+1)) (zmB m (d+1)))
def zmB:List St->Nat->Nat
 |[],_=>0
 |x::l,d=>max (zlH x d) (zmB l d)
end
theorem zdL(x:St):zlQ x=1+nS x.thn+nS x.els:=by cases x;rw[zlQ];rfl
theorem zQ(x:St):zlG x=(if x.kind=4 then 1 else 0)+zl3 x.thn+zl3 x.els:=by cases x;rw[zlG];rfl
theorem zdM(x:St)(d:Nat):zlH x d=max d (max (zmB x.thn (d+1)) (zmB x.els (d+1))):=by cases x;rw[zlH];rfl
mutual
theorem zdN:∀x:St,zlQ x<=x.sz
 | .mk _ _ _ _ _ _ _ j m=>by have:=C6 j;have:=C6 m;simp only[zlQ,St.sz];omega
theorem C6:∀l:List St,nS l<=zld l
 |[]=>aB _
 |x::l=>by have:=zdN x;have:=C6 l;simp only[nS,zld];omega
end
mutual
theorem zdO:∀x:St,zlG x<=x.sz
 | .mk k _ _ _ _ _ _ j m=>by have:=C7 j;have:=C7 m;simp only[zlG,St.sz];split<;>omega
theorem C7:∀l:List St,zl3 l<=zld l
 |[]=>aB _
 |x::l=>by have:=zdO x;have:=C7 l;simp only[zl3,zld];omega
end
mutual
theorem zdP:∀(x:St) (d:Nat),zlH x d<=d+x.sz
 | .mk _ _ _ _ _ _ _ j m,d=>by have:=C8 j (d+1);have:=C8 m (d+1);simp only[zlH,St.sz];omega
theorem C8:∀(l:List St) (d:Nat),zmB l d<=d+zld l
 |[],_=>dm _
 |x::l,d=>by have:=zdP x d;have:=C8 l d;simp only[zmB,zld];omega
end
theorem znj{z:Int}(h1:-9223372036854775808<=z)(h2:z<9223372036854775808):IntKind.wrap .i64 z=z:=yV _ ac
def ta(x:List St×Nat):List AV:=[.lst (x.1.map St.cells),.int .i64 x.2]
theorem HD(x y:List St×Nat)(h:ta x=ta y):x=y:=by
 simp only[ta,ea,AV.lst.injEq,AV.int.injEq,aR,j9]at h;exact qV (CO h.1) ac
def um(x:List St×Nat):AV:=.tup [.int .i64 (nS x.1),.int .i64 (zl3 x.1),.int .i64 (zmB x.1 x.2)]
theorem M3(a b c:AV):Ab.extract (.tup [a,b,c]) 0=some a:=rfl
theorem M4(a b c:AV):Ab.extract (.tup [a,b,c]) 1=some b:=rfl
theorem M5(a b c:AV):Ab.extract (.tup [a,b,c]) 2=some c:=rfl
theorem ztl(ρ:Nat->Int):∀x:List St×Nat,zld x.1+x.2<2^60->bM Tryz.prog ρ 102 (ta x) (um x):=
 vI fit (pls:=pls) (l:=[]) trivial (fun x=>zld x.1) (ok:=fun x=>zld x.1+x.2<2^60) (enc:=ta) (out:=um) (fun x _=>.cons (xl _) (.cons (.int _ _) .nil)) (fun x _=>.tup (.cons (.int _ _) (.cons (.int _ _) (.cons (.int _ _) .nil)))) (fun x hx=>by
 have O:=sW (sz:=fun x:List St×Nat=>zld x.1) (ok:=fun x=>zld x.1+x.2<2^60) (out:=um) HD (f:=102) (l:=[]) x;generalize hl:(⟨102,false,b7 (fun y=>zld y.1+y.2<2^60/\zld y.1<zld x.1) ta um⟩:En)::[]=l at O⊢;obtain⟨x,d⟩:=x;have kr:∀(y:List St),zld y<zld x->∀H,zk5 Tryz.prog (zkY pls l) 102 [.lst (y.map St.cells),.int .i64 ((d+1:Nat):Int)] H fun v H'=>v=.tup [.int .i64 (nS y),.int .i64 (zl3 y),.int .i64 (zmB y (d+1))]/\H'=H:=fun y h2 H=>by
  subst hl;exact zlM (enc:=ta) (out:=um) HD (x:=(y,d+1)) rfl ⟨by simp only[]at hx⊢;omega,h2⟩
 simp only[]at hx;have I:=znP x;have hn:=C6 x;have hwl:=C7 x;have hm:=C8 x d;have hwd:IntKind.wrap .i64 ((d:Int)+1)=((d+1:Nat):Int):=CV;change zk5 _ _ _ [.lst (x.map St.cells),.int .i64 d] _ _;refine zlf (M:=78) (rs:=[.tmp 4,.tmp 5,.tmp 6]) O.call O.ice O.froz Tryz.func102 rfl rfl M0.2 rfl ?_;dsimp only[M0,zD,Nat.reduceAdd];repeat' (first
  |(apply ah ?_;clear hK K)|apply Rx.o ?_|apply ak ?_|(apply zkU fun K hK=>?_)|apply aG ?_|fail)
 refine zlL [0,1] [] 10 x.length (fun i E H=>∃a b m:Nat,E.at 7=.int .i64 a/\E.at 8=.int .i64 b/\E.at 9=.int .i64 m/\a+nS (x.drop i)=nS x/\b+zl3 (x.drop i)=zl3 x/\max m (zmB (x.drop i) d)=zmB x d) eE ⟨0,0,0,eE,eE,eE,ax,ax,ax⟩ ?_;rintro i E H2 hi V U J hsI ⟨a,b,m,k7,k8,k9,o,Y,z⟩;(try simp only[zlm,zlb,aR,zk1,zk7,Nat.reduceBEq, *]at V);(try simp only[zlb, *]at U);(try simp only[zlI,]at J);repeat' (first
  |(apply ah ?_;clear hK K)|apply Rx.o ?_|(apply a0 (fun Z j=>?_) (fun Z j=>?_)<;>try(cases Z;done))|apply ak ?_|(apply zkU fun K hK=>?_)|apply aG ?_|apply zk3 ?_|apply aF ?_|apply zlu ?_)
 .have C:i<x.length:=by simpa using Z
  have hgx:x[i]?=some x[i]:=aT C;have hsm:=znL (cR C);have hsz:=x[i].sz_eq;have d1:nS (x.drop i)=zlQ x[i]+nS (x.drop (i+1)):=sV;have d2:zl3 (x.drop i)=zlG x[i]+zl3 (x.drop (i+1)):=sV;have d3:zmB (x.drop i) d=max (zlH x[i] d) (zmB (x.drop (i+1)) d):=sV;rw[zdL]at d1;rw[zQ]at d2;rw[zdM]at d3;have gh0:=@M3;have gh1:=@M4;have gh2:=@M5;repeat' (first
   |(apply ah ?_;clear hK K)|apply Rx.o ?_|(apply eM ?_;first|refine zlc (kr _ ac _) ?_)|(apply a0 (fun Z j=>?_) (fun Z j=>?_)<;>try(cases Z;done))|apply ak ?_|(apply zkU fun K hK=>?_)|apply zk3 ?_|fail)
  all_goals
   refine⟨ac,zk8,zk8,zlF,uj,?_⟩;refine⟨a+1+nS x[i].thn+nS x[i].els,b+(if x[i].kind=4 then 1 else 0)+zl3 x[i].thn+zl3 x[i].els,max (max m d) (max (zmB x[i].thn (d+1)) (zmB x[i].els (d+1))),?_,?_,?_,ac,ac,ac⟩
   .simp only[zk1,Nat.reduceBEq]
    congr 1
    simp (disch:=omega) only[znj];omega
   .simp only[zk1,Nat.reduceBEq]
    congr 1
    simp (disch:=omega) only[znj, *];simp;try omega
   .simp only[zk1,Nat.reduceBEq]
    congr 1
    omega
 .all_goals (refine⟨eI,_,eR,?_⟩;try simp only[zkX])
  rw[show i=x.length by simp at Z;omega,gT]at o Y z;simp[nS,zl3,zmB]at o Y z;simp only[um,o,Y,z])
end
section
def tyI1.tyF:=ad @cJ (ad @gX (@qK))
open tyI1
noncomputable def M6:{c:SC // aC 31 (Tryz.f19.body.getD .skip)=c}:=by
 refine⟨?_,?_⟩;rotate_left
 .simp only[Tryz.f19,bI,aC,zll,zle,zlp,zln,Nat.blt,Nat.ble];rfl
noncomputable def M7:{c:SC // aC 6 (Tryz.f131.body.getD .skip)=c}:=by
 refine⟨?_,?_⟩;rotate_left
 .simp only[Tryz.f131,bI,aC,zll,zle,zlp,zln,Nat.blt,Nat.ble];rfl
noncomputable def M8:{c:SC // aC 22 (Tryz.f154.body.getD .skip)=c}:=by
 refine⟨?_,?_⟩;rotate_left
 .simp only[Tryz.f154,bI,aC,zll,zle,zlp,zln,Nat.blt,Nat.ble];rfl
noncomputable def M9:{c:SC // aC 21 (Tryz.f152.body.getD .skip)=c}:=by
 refine⟨?_,?_⟩;rotate_left
 .simp only[Tryz.f152,bI,aC,zll,zle,zlp,zln,Nat.blt,Nat.ble];rfl
noncomputable def Na:{c:SC // aC 21 (Tryz.f153.body.getD .skip)=c}:=by
 refine⟨?_,?_⟩;rotate_left
 .simp only[Tryz.f153,bI,aC,zll,zle,zlp,zln,Nat.blt,Nat.ble];rfl
def nr(op:Int):AV:=.tup [.int .i64 (eu op).1,.bool (eu op).2]
theorem zvz(op:Int):fJ (nr op):=.tup (.cons (.int _ _) (.cons (.bool _) .nil))
theorem zqC(ρ:Nat->Int)(op:Int):bM Tryz.prog ρ 19 [.int .i64 op] (nr op):=zmy fit (pls:=pls) (l:=[]) trivial (.cons (.int _ _) .nil) (zvz op) (by
 have O:=zmQ 19;refine zlf (M:=31) (rs:=[.tmp 2,.tmp 3]) (O.call _) O.ice O.froz Tryz.func19 rfl rfl M6.2 rfl ?_;dsimp only[M6,zD,Nat.reduceAdd];repeat' (first
  |(apply ah ?_;clear hK K)|apply Rx.o ?_|(apply cz (fun Z Y=>?_) (fun Z Y=>?_)<;>try(cases Z;done))|(apply a0 (fun C j=>?_) (fun C j=>?_)<;>try(cases C;done))|apply ak ?_|(apply zkU fun K hK=>?_)|apply aG ?_|apply zk3 ?_|apply aF ?_)
 all_goals
  refine⟨eI,_,qQ,?_⟩;try simp only[zkX]
  first
  |(simp_all[nr,eu];done)
  |(unfold nr eu;rw[af ac,af ac,af ac,af ac,af ac,af ac];done))
theorem HE(n:Nat):(0:Int)<=eC n/\eC n<=n:=by
 by_cases h:n=0
 .subst h;decide
 .rw[C5 n ac];omega
theorem zdT(ρ:Nat->Int)(n:Nat)(J:n<2^60):bM Tryz.prog ρ 131 [.int .i64 n] (.int .i64 (eC n)):=zmy fit (pls:=pls) (l:=[]) trivial (.cons (.int _ _) .nil) (.int _ _) (by
 have O:=zmQ 131;have V:(2:Int)≠0:=aE;have m:IntKind.wrap .i64 ((n:Int)-1)=(n:Int)-1:=znj ac ac;refine zlf (M:=6) (rs:=[.tmp 2]) (O.call _) O.ice O.froz Tryz.func131 rfl rfl M7.2 rfl ?_;dsimp only[M7,zD,Nat.reduceAdd];repeat' (first
  |(apply ah ?_;clear hK K)|apply Rx.o ?_|apply ak ?_|(apply zkU fun K hK=>?_)|apply aF ?_)
 all_goals (refine⟨eI,_,eR,?_⟩;try simp only[zkX])
 rw[eC];rw[znj (by have:=(HE n).1;unfold eC at this;omega) (by have:=(HE n).2;unfold eC at this;omega)])
theorem bn3(H:Hp)(a b c:Int):zmb Tryz.prog H 23 3 [(0,.int .i64 a),(1,.int .i64 b),(2,.int .i64 c)]=some (.sl H.next 0 3 1,H.alloc (.cells [.int .i64 a,.int .i64 b,.int .i64 c] 0 true)):=aj
theorem bn2(H:Hp)(a b:Int):zmb Tryz.prog H 23 2 [(0,.int .i64 a),(1,.int .i64 b)]=some (.sl H.next 0 2 1,H.alloc (.cells [.int .i64 a,.int .i64 b] 0 true)):=aj
theorem HF(H:Hp)(a:Int):zmb Tryz.prog H 23 1 [(0,.int .i64 a)]=some (.sl H.next 0 1 1,H.alloc (.cells [.int .i64 a] 0 true)):=aj
theorem zzU(ρ:Nat->Int)(op:Int):bM Tryz.prog ρ 154 [.int .i64 op] (gI (iG op)):=vH (m:=3) (cfg:=zkY pls []) fit (pP ρ) (fun f Z r h=>by simp[zkY,zme]at h) (.cons (.int _ _) .nil) (by
 have O:=zmQ 154;refine zlf (M:=22) (rs:=[.tmp 2]) (O.call _) O.ice O.froz Tryz.func154 rfl rfl M8.2 rfl ?_;dsimp only[M8,zD,Nat.reduceAdd];have V:=@bn3;have Y:=@bn2;have z:=@HF;repeat' (first
  |(apply ah ?_;clear hK K)|apply Rx.o ?_|(apply a0 (fun C j=>?_) (fun C j=>?_)<;>try(cases C;done))|apply ak ?_|(apply zkU fun K hK=>?_)|apply aG ?_|apply zk3 ?_|apply aF ?_)
 all_goals
  all_goals (refine⟨eI,_,eR,?_⟩;try simp only[zkX])
  simp_all[iG];rfl)
theorem zoM(s w:List Int)(i:Nat)(I:i<s.length)(M:s.length<=w.length):zmH (s.drop i) (w.drop i)=(decide (s.getD i 0=w.getD i 0)&&zmH (s.drop (i+1)) (w.drop (i+1))):=by
 rw[fS I,fS (l:=w) ac,zmH];simp[dx,aT I,aT (show i<w.length by omega)]
def vQ(x:List Int×List Int):List AV:=[gI x.1,gI x.2]
theorem HG{a b:List Int}(h:gI a=gI b):a=b:=by
 simp only[gI,AV.lst.injEq]at h;exact Mq h
theorem zzV(x y:List Int×List Int)(h:vQ x=vQ y):x=y:=by
 simp only[vQ,ea,aR]at h;exact qV (HG h.1) (HG h.2)
theorem ztm(ρ:Nat->Int)(x:List Int×List Int)(hx:x.1.length<=x.2.length/\x.2.length<2^60):bM Tryz.prog ρ 152 (vQ x) (.bool (zmH x.1 x.2)):=zmy fit (pls:=pls) (l:=[]) trivial (.cons (zF _) (.cons (zF _) .nil)) (.bool _) (by
 obtain⟨s,w⟩:=x;obtain⟨m,C⟩:=hx;simp only[]at m C;have o:=zmQ 152;rw[vQ];simp only[];refine zlf (M:=21) (rs:=[.tmp 4]) (o.call _) o.ice o.froz Tryz.func152 rfl rfl M9.2 rfl ?_;dsimp only[M9,zD,Nat.reduceAdd];repeat' (first
  |(apply ah ?_;clear hK K)|apply Rx.o ?_|apply ak ?_|(apply zkU fun K hK=>?_)|apply aG ?_|fail)
 refine zlL [0,1] [] 5 s.length (fun i E H=>zmH s w=zmH (s.drop i) (w.drop i)) eE ax ?_;rintro i E H2 hi V U J hsI I;(try simp only[zlm,zlb,aR,zk1,zk7,Nat.reduceBEq, *]at V);(try simp only[zlb, *]at U);(try simp only[zlI,]at J);repeat' (first
  |(apply ah ?_;clear hK K)|apply Rx.o ?_|(apply a0 (fun C j=>?_) (fun C j=>?_)<;>try(cases C;done))|apply ak ?_|(apply zkU fun K hK=>?_)|(apply zmm 4 [(3,9),(7,9)] fun K hK=>?_)|(apply zlC ?_;try intro _)|apply bZ ?_|apply aG ?_|apply zk3 ?_|apply aF ?_|apply zlu ?_)
 .have Z:i<s.length:=by simpa using C
  have z:s[i]?=some s[i]:=aT Z;have Y:w[i]?=some w[i]:=aT ac;have O:=zoM s w i Z m;repeat' (first
   |(apply ah ?_;clear hK K)|apply Rx.o ?_|(apply a0 (fun C j=>?_) (fun C j=>?_)<;>try(cases C;done))|apply ak ?_|(apply zkU fun K hK=>?_)|(apply zlC ?_;try intro _)|(apply zmk ?_ ?_<;>clear hK K)|apply bZ ?_|apply zk3 ?_|apply aF ?_|fail)
  .exact zlU
  .all_goals (refine⟨eI,_,eR,?_⟩;try simp only[zkX])
   rw[I,O,dx,dx,z,Y];simp_all
  .refine⟨ac,zk8,zk8,zlF,CU,?_⟩;rw[I,O,dx,dx,z,Y];simp_all
 .all_goals (refine⟨eI,_,eR,?_⟩;try simp only[zkX])
  rw[I,show i=s.length by simp at C;omega,gT];rfl)
noncomputable def HH:En:=⟨19,false,b7 (fun _=>True) (fun n:Int=>[.int .i64 n]) nr⟩
theorem zzW(ρ:Nat->Int):zl0 Tryz.prog ρ HH:=zl7 fun n _=>zqC ρ n
theorem Nb(x y:Int)(h:([.int .i64 x]:List AV)=[.int .i64 y]):x=y:=j8
def vR(n:Nat):List AV:=[.int .i64 n]
theorem Nc(x y:Nat)(h:vR x=vR y):x=y:=by
 simp only[vR,ea,AV.int.injEq,aR,j9]at h;omega
noncomputable def rN:En:=⟨131,false,b7 (fun n=>n<2^60) vR fun n=>.int .i64 (eC n)⟩
theorem C9(ρ:Nat->Int):zl0 Tryz.prog ρ rN:=zl7 fun n J=>zdT ρ n J
theorem xB{l:List En}(Z:∀M,zme l 131 M=rN.sp M)(n:Nat)(J:n<2^60)(H:Hp):zk5 Tryz.prog (zkY pls l) 131 [.int .i64 n] H fun v H'=>v=.int .i64 (eC n)/\H'=H:=
 zlM (enc:=vR) (ok:=fun n=>n<2^60) (out:=fun n=>.int .i64 (eC n)) Nc (x:=n) (Z _) J
noncomputable def HI:En:=⟨154,false,b7 (fun _=>True) (fun n:Int=>[.int .i64 n]) fun n=>gI (iG n)⟩
theorem zvA(ρ:Nat->Int):zl0 Tryz.prog ρ HI:=zl7 fun n _=>zzU ρ n
def xC(x:List Int×List Int):Prop:=x.1.length<=x.2.length/\x.2.length<2^60
noncomputable def HJ:En:=⟨152,false,b7 xC vQ fun x=>.bool (zmH x.1 x.2)⟩
theorem zzX(ρ:Nat->Int):zl0 Tryz.prog ρ HJ:=zl7 fun x hx=>ztm ρ x hx
theorem ztn(ρ:Nat->Int)(n:Nat)(h3:3<=n)(hn:n<2^30):bM Tryz.prog ρ 153 [.int .i64 n] (gI (mn n)):=vH (m:=3) (cfg:=zkY pls [rN]) fit (pP ρ) (fK.look ⟨C9 ρ,trivial⟩) (.cons (.int _ _) .nil) (by
 have z:Plain (zkY pls [rN]) 153:=zml (fun _=>rfl) rfl;have hlv:=C5 n ac;refine zlf (M:=21) (rs:=[.tmp 2]) (z.call _) z.ice z.froz Tryz.func153 rfl rfl Na.2 rfl ?_;dsimp only[Na,zD,Nat.reduceAdd];repeat' (first
  |(apply ah ?_;clear hK K)|apply Rx.o ?_|apply ak ?_|(apply zkU fun K hK=>?_)|apply aG ?_|fail)
 have o:∀i,(List.replicate i (1:Int)).length=i:=fun i=>qU;have I:(zkY pls [rN]).keep 153=false:=rfl;refine zlL [0,2] [] 4 n (fun i E H=>∃v,E.at 3=v/\je H v (List.replicate i 1) 0) eE ⟨.nilS,eE,.inl ⟨rfl,rfl⟩⟩ ?_;rintro i E Z hi Y V O hsI ⟨v,k3,U⟩;(try simp only[zlm,zlb,aR,zk1,zk7,Nat.reduceBEq, *]at Y);(try simp only[zlb, *]at V);(try simp only[zlI,]at O);repeat' (first
  |(apply ah ?_;clear hK K)|apply Rx.o ?_|(apply a0 (fun C j=>?_) (fun C j=>?_)<;>try(cases C;done))|apply ak ?_|(apply zkU fun K hK=>?_)|apply aG ?_|apply zk3 ?_|apply zlu ?_)
 .have hlt:i<n:=by simpa using C
  have gh0:=@HF;repeat' (first
   |apply Rx.o ?_|fail)
  have hvb:je (Z.alloc (.cells [.int .i64 1] 0 true)) v (List.replicate i 1) 0:=U.keep (dQ _) fun k hk=>by rw[zkZ,af (by have:=(U.n.lt hk).2;omega)]
  obtain⟨v5,H5,a5,s5,n5,f5,o5⟩:=zvs (r:=Z.next) (imm:=0) 1 hvb (dm _) gH (by rw[o];omega);refine jv eV eV CT ?_;repeat' (first
   |(apply ah ?_;clear hK K)|apply Rx.o ?_|(apply zkU fun K hK=>?_)|fail)
  refine⟨ac,zk8,zk8,zlF,(by simp only[zk1,Nat.reduceBEq, *];exact zni (n:=n) ac ac),?_⟩;exact⟨v5,eE,.inr (by rw[Hl];exact s5)⟩
 .have hie:i=n:=by simp at C;omega
  subst hie;rcases U with⟨_,h⟩|⟨r,J,h2,_,h4⟩
  .have:=jm List.length h;rw[o]at this;simp at this;omega
  subst J;rw[o]at k3;have hcl:((List.replicate i (1:Int)).map (AV.int .i64)).length=i:=ax;generalize hcs:(List.replicate i (1:Int)).map (AV.int .i64)=cs at h2 hcl;have hi1:0<i:=ac;have hi2:(i-1)/2+1<i:=ac;have e1:IntKind.wrap .i64 (((i-1)/2:Nat)+1)=(((i-1)/2+1:Nat):Int):=znj ac ac;repeat' (first
   |apply Ry.o ?_|(apply d7 ?_;first|refine zlc (xB (fun _=>rfl) _ ac _) ?_)|fail)
  refine oN eV eV (zO h2 ac 2) ?_;repeat' (first
   |apply Ry.o ?_|fail)
  refine oN eV eV (zO gQ (by rw[jd];omega) 2) ?_;repeat' (first
   |(apply ah ?_;clear hK K)|apply Rx.o ?_|apply ak ?_|(apply zkU fun K hK=>?_)|apply aF ?_|fail)
  all_goals (refine⟨eI,_,eR,?_⟩;try simp only[zkX])
  have hll:(mn i).length=i:=by simp[mn]
  have C:gC ((Z.set r (.cells (cs.set 0 (.int .i64 2)) 0 true)).set r (.cells ((cs.set 0 (.int .i64 2)).set ((i-1)/2+1) (.int .i64 2)) 0 true)) (.sl r 0 (mn i).length 1) (mn i) 0:=⟨r,0,rfl,by
   rw[aJ,am rfl,mn,qL,qL,hcs,show(eC i+1).toNat=(i-1)/2+1 by omega],dm _,dm _,h4⟩
  have:=C.iceV 1;rw[hll]at this;exact this)
noncomputable def HK:En:=⟨153,false,b7 (fun n=>3<=n/\n<2^30) vR fun n=>gI (mn n)⟩
theorem zzY(ρ:Nat->Int):zl0 Tryz.prog ρ HK:=zl7 fun n J=>ztn ρ n J.1 J.2
end
end Go.Proofs.YtpbcimfiofmoeaaGreat
