/- Parts: R3a, Strs, AbWk, AbIc, Ints, SpecI, SpecR. -/
import Derived.Test.YtpbcimfiofmoeaaGreatRCG
set_option linter.unusedSimpArgs false
set_option linter.unusedVariables false
set_option linter.unusedSectionVars false
set_option linter.defProp false
set_option maxHeartbeats 32000000
namespace Go.Ab
set_option maxRecDepth 20000
open Go
theorem ki{P:Prop}(h:P:=by rw[List.drop_eq_getElem_cons hlt];rfl):P:=h
theorem Jh{P:Prop}(h:P:=by simp only[zec,zeb,and_true,zdX,zd2,Nat.reduceBEq,Nat.reduceAdd,Nat.reduceLeDiff,tyF,mP, *]):P:=h
theorem DS{P:Prop}(h:P:=by rw[hg r h4 h5];exact h2):P:=h
theorem Ae{P:Prop}(h:P:=by rw[hg r ⟨_,rfl⟩];exact h2):P:=h
theorem Af{P:Prop}(h:P:=by have:=List.length_pos_iff.2 hm;omega):P:=h
theorem jQ{P:Prop}(h:P:=by rw[hmr];omega):P:=h
theorem qT{P:Prop}(h:P:=by simp[hn]):P:=h
theorem ev{P:Prop}(h:P:=by rw[zd1,if_pos rfl];rfl):P:=h
theorem l8{P:Prop}(h:P:=by simp only[zgy];omega):P:=h
theorem Ag{P:Prop}(h:P:=by rw[List.append_nil];exact hv):P:=h
theorem Ah{P:Prop}(h:P:=by rw[Nat.ble_eq];omega):P:=h
theorem qU{P:Prop}(h:P:=by rw[zgC];omega):P:=h
theorem aY{P:Prop}(h:P:=by decide):P:=h
theorem tV{P:Prop}(h:P:=by simp only[zdX,Nat.reduceBEq, *];exact zfQ (n:=s.length) ac ac):P:=h
theorem oZ{P:Prop}(h:P:=by simp only[zdX,Nat.reduceBEq, *];exact zfQ (n:=l.length) ac ac):P:=h
theorem tW{P:Prop}(h:P:=by simp only[zdX,Nat.reduceBEq, *];exact zfQ (n:=p.funcs.length) ac ac):P:=h
theorem iA{P:Prop}(h:P:=by rw[Hp.get_set,if_neg ac]):P:=h
theorem DT{P:Prop}(h:P:=by rw[xV _ ac];omega):P:=h
def dy:=@List.length_map
def nT:=@List.all_nil
def DU:=@List.drop_succ_cons
def jl:=@List.drop_eq_getElem_cons
def DV:=@Bool.and_eq_false_iff
def qV:=@List.any_cons
def so:=@List.any_nil
def Ai:=@Bool.or_false
def DW:=@Bool.or_assoc
def kP:=@List.map_nil
def qW:=@Nat.le_of_eq
def dM:=@List.getD_eq_getElem?_getD
def tX:=@List.headD_cons
def nU:=@Bool.false_and
def iS:=@List.length_set
def Ak:=@List.any_eq_true
def mO:=@of_decide_eq_true
def xH:=@List.getElem?_replicate
def qX:=@List.length_replicate
def vB:=@Bool.and_assoc
def DX:=@List.set_cons_zero
def Al:=@List.eq_of_mem_replicate
def xI:=@List.eq_nil_of_length_eq_zero
def pd:=@decide_eq_false
def xJ:=@decide_eq_decide
def qc:=@decide_eq_true
def DY:=@Bool.and_false
def DZ:=And.intro @nU @DY
end Go.Ab
namespace Go.Proofs.YtpbcimfiofmoeaaGreat
set_option maxRecDepth 20000
open Go Go.Ab
section
def tyR3a.tyF:=ad @dC (ad @eU (ad @iy (ad @jO (ad @kO (ad @iw (ad @hO (ad @fW (ad @r7 (ad @DA (ad @eI (@gg)))))))))))
open tyR3a
theorem jm(f:FuncId):Plain (zdW pls []) f:=⟨fun _=>rfl,rfl,rfl⟩
theorem zfv{l:List En}{f:FuncId}(h1:∀args,zeN l f args=none)(h2:jx l f=false):Plain (zdW pls l) f:=⟨h1,h2,rfl⟩
structure PlainA (cfg:Cfg) (f:FuncId) (args:List AV):Prop where
 call:cfg.call f args=none
 ice:cfg.ice f=false
 froz:cfg.froz f=false
theorem tY{α:Type}{sz:α->Nat}{ok:α->Prop}{enc:α->List AV}{out:α->AV}(inj:∀x y,enc x=enc y->x=y){f:FuncId}{l:List En}(x:α):
 PlainA (zdW pls (⟨f,false,cy (fun y=>ok y/\sz y<sz x) enc out⟩::l)) f (enc x):=by
 have hf:Nat.beq f f=true:=Nat.beq_refl f;refine⟨?_,?_,rfl⟩
 .show zeN _ f (enc x)=none;simp only[zeN,hf];exact DO fun y hy e=>by rw[inj _ _ e]at hy;exact Nat.lt_irrefl _ hy.2
 .show jx _ f=false;simp only[jx,hf]
noncomputable def Ji:{c:SC // aS 21 (Tryz.f132.body.getD .skip)=c}:=by
 refine⟨?_,?_⟩;rotate_left
 .simp only[Tryz.f132,cj,aS,zen,zel,zeu,zev,Nat.blt,Nat.ble];rfl
noncomputable def Jj:{c:SC // aS 9 (Tryz.f133.body.getD .skip)=c}:=by
 refine⟨?_,?_⟩;rotate_left
 .simp only[Tryz.f133,cj,aS,zen,zel,zeu,zev,Nat.blt,Nat.ble];rfl
noncomputable def Jk:{c:SC // aS 34 (Tryz.f80.body.getD .skip)=c}:=by
 refine⟨?_,?_⟩;rotate_left
 .simp only[Tryz.f80,cj,aS,zen,zel,zeu,zev,Nat.blt,Nat.ble];rfl
noncomputable def Jl:{c:SC // aS 18 (Tryz.f81.body.getD .skip)=c}:=by
 refine⟨?_,?_⟩;rotate_left
 .simp only[Tryz.f81,cj,aS,zen,zel,zeu,zev,Nat.blt,Nat.ble];rfl
noncomputable def Jm:{c:SC // aS 10 (Tryz.f46.body.getD .skip)=c}:=by
 refine⟨?_,?_⟩;rotate_left
 .simp only[Tryz.f46,cj,aS,zen,zel,zeu,zev,Nat.blt,Nat.ble];rfl
noncomputable def Jn:{c:SC // aS 18 (Tryz.f107.body.getD .skip)=c}:=by
 refine⟨?_,?_⟩;rotate_left
 .simp only[Tryz.f107,cj,aS,zen,zel,zeu,zev,Nat.blt,Nat.ble];rfl
noncomputable def Jo:{c:SC // aS 9 (Tryz.f147.body.getD .skip)=c}:=by
 refine⟨?_,?_⟩;rotate_left
 .simp only[Tryz.f147,cj,aS,zen,zel,zeu,zev,Nat.blt,Nat.ble];rfl
noncomputable def Jp:{c:SC // aS 27 (Tryz.f170.body.getD .skip)=c}:=by
 refine⟨?_,?_⟩;rotate_left
 .simp only[Tryz.f170,cj,aS,zen,zel,zeu,zev,Nat.blt,Nat.ble];rfl
noncomputable def Jq:{c:SC // aS 22 (Tryz.f108.body.getD .skip)=c}:=by
 refine⟨?_,?_⟩;rotate_left
 .simp only[Tryz.f108,cj,aS,zen,zel,zeu,zev,Nat.blt,Nat.ble];rfl
theorem Xh(ρ:Nat->Int)(n:Int):bV Tryz.prog ρ 132 [.int .u8 n] (.bool (sh n)):=zfq fit (pls:=pls) (l:=[]) trivial (.cons (.int _ _) .nil) (.bool _) (by
 have hw:=jm 132;refine zed (M:=21) (rs:=[.tmp 2]) (hw.call _) hw.ice hw.froz Tryz.func132 rfl rfl Ji.2 rfl ?_;dsimp only[Ji,zd8,Nat.reduceAdd];repeat' (first
  |(apply au ?_;clear hK K)|apply Rx.o ?_|apply eJ ?_|(apply bQ (fun hg hgp=>?_) (fun hg hgp=>?_)<;>try(cases hg;done))|apply am ?_|(apply zdQ fun K hK=>?_)|apply aB ?_)
 all_goals (refine⟨zdZ,_,zd6,?_⟩;try simp only[zdY])
 all_goals (simp_all[sh]<;>omega))
theorem Xi(ρ:Nat->Int)(n:Int):bV Tryz.prog ρ 133 [.int .u8 n] (.bool (qS n)):=zfq fit (pls:=pls) (l:=[]) trivial (.cons (.int _ _) .nil) (.bool _) (by
 have hw:=jm 133;refine zed (M:=9) (rs:=[.tmp 2]) (hw.call _) hw.ice hw.froz Tryz.func133 rfl rfl Jj.2 rfl ?_;dsimp only[Jj,zd8,Nat.reduceAdd];repeat' (first
  |(apply au ?_;clear hK K)|apply Rx.o ?_|(apply bQ (fun hg hgp=>?_) (fun hg hgp=>?_)<;>try(cases hg;done))|apply am ?_|(apply zdQ fun K hK=>?_)|apply aB ?_)
 all_goals (refine⟨zdZ,_,zd6,?_⟩;try simp only[zdY])
 all_goals (simp_all[qS]<;>omega))
def tZ(n:Int):List AV:=[.int .u8 n]
theorem Jr(x y:Int)(h:tZ x=tZ y):x=y:=by simpa [tZ]using h
noncomputable def xK:En:=⟨132,false,cy (fun _=>True) tZ fun n=>.bool (sh n)⟩
noncomputable def xL:En:=⟨133,false,cy (fun _=>True) tZ fun n=>.bool (qS n)⟩
theorem Xj(ρ:Nat->Int):zeO Tryz.prog ρ xK:=zeV fun n _=>Xh ρ n
theorem Xk(ρ:Nat->Int):zeO Tryz.prog ρ xL:=zeV fun n _=>Xi ρ n
theorem Xl(ρ:Nat->Int)(s:List UInt8)(hs:s.length<2^60):bV Tryz.prog ρ 80 [.str s] (.bool (sm s)):=zfq fit (pls:=pls) (l:=[xK,xL]) ⟨Xj ρ,Xk ρ,trivial⟩ (.cons (.str _) .nil) (.bool _) (by
 have hw:Plain (zdW pls [xK,xL]) 80:=zfv (fun _=>rfl) rfl;have kl:∀(n:Int) (H:Hp),zd5 Tryz.prog (zdW pls [xK,xL]) 132 [.int .u8 n] H fun v H'=>v=.bool (sh n)/\H'=H:=fun n H=>zeJ (enc:=tZ) (out:=fun n=>.bool (sh n)) Jr (x:=n) rfl trivial;have kd:∀(n:Int) (H:Hp),zd5 Tryz.prog (zdW pls [xK,xL]) 133 [.int .u8 n] H fun v H'=>v=.bool (qS n)/\H'=H:=fun n H=>zeJ (enc:=tZ) (out:=fun n=>.bool (qS n)) Jr (x:=n) rfl trivial;refine zed (M:=34) (rs:=[.tmp 2]) (hw.call _) hw.ice hw.froz Tryz.func80 rfl rfl Jk.2 rfl ?_;dsimp only[Jk,zd8,Nat.reduceAdd];repeat' (first
  |(apply au ?_;clear hK K)|apply Rx.o ?_|apply eJ ?_|(apply bQ (fun hg hgp=>?_) (fun hg hgp=>?_)<;>try(cases hg;done))|(apply aT (fun hb hbp=>?_) (fun hb hbp=>?_)<;>try(cases hb;done))|apply am ?_|(apply zdQ fun K hK=>?_)|apply aA ?_|apply zdR ?_|apply aB ?_|apply zdT ?_)
 refine zeL [0] [] 3 s.length (fun i E H=>p9 s=i+p9 (s.drop i)/\(0<i->∀b,s[0]?=some b->qS b.toNat=false)) eE aK ?_;rintro i E H2 hi hcE hrH hnH hsI ⟨hJ,hK1⟩;(try simp only[zec,zeb,aX,zdX,zd2,Nat.reduceBEq,Nat.reduceAdd,Nat.reduceLeDiff,tyF, *]at hcE);(try simp only[zec,zeb,aX,zdX,zd2,Nat.reduceBEq,Nat.reduceAdd,Nat.reduceLeDiff,tyF, *]at hrH);(try simp only[zea,zef,zeB,bT,Nat.reduceAdd]at hnH);repeat' (first
  |(apply au ?_;clear hK K)|apply Rx.o ?_|apply eJ ?_|(apply bQ (fun hg hgp=>?_) (fun hg hgp=>?_)<;>try(cases hg;done))|(apply aT (fun hb hbp=>?_) (fun hb hbp=>?_)<;>try(cases hb;done))|apply am ?_|(apply zdQ fun K hK=>?_)|apply aA ?_|apply zdR ?_|apply aB ?_|apply zdT ?_)
 .have hlt:i<s.length:=by simpa using hb
  have hgx:s[i]?=some s[i]:=br hlt;have hdr:p9 (s.drop i)=if sk s[i]then p9 (s.drop (i+1))+1 else 0:=by rw[jl hlt,p9]
  repeat' (first
   |(apply au ?_;clear hK K)|apply Rx.o ?_|(apply eu ?_;first|refine Rx.k (kl _ _) ?_|refine Rx.k (kd _ _) ?_)|apply eJ ?_|(apply bQ (fun hg hgp=>?_) (fun hg hgp=>?_)<;>try(cases hg;done))|(apply aT (fun hb hbp=>?_) (fun hb hbp=>?_)<;>try(cases hb;done))|apply am ?_|(apply zdQ fun K hK=>?_)|apply aA ?_|apply zdR ?_|apply aB ?_|apply zdT ?_)
  .all_goals (refine⟨zdZ,_,zd6,?_⟩;try simp only[zdY])
   have hi0:i=0:=ac;subst hi0;unfold sm;cases s<;>simp_all
  .refine⟨ac,zd7,zd7,eN,tV,?_⟩;have hwb:sk s[i]=true:=by simp_all[sk]
   refine⟨by rw[hJ,hdr,hwb];simp;omega,fun _ b hb0=>hK1 ac b hb0⟩
  .all_goals (refine⟨zdZ,_,zd6,?_⟩;try simp only[zdY])
   have hwb:sk s[i]=false:=by simp_all[sk]
   rw[hwb]at hdr;simp at hdr;unfold sm;simp[show ¬p9 s=s.length by omega]
  .refine⟨ac,zd7,zd7,eN,tV,?_⟩;have hwb:sk s[i]=true:=by simp_all[sk]
   refine⟨by rw[hJ,hdr,hwb];simp;omega,fun _ b hb0=>?_⟩;by_cases h0:0<i
   .exact hK1 h0 b hb0
   .have hi0:i=0:=by omega
    subst hi0;rw[hgx]at hb0;have:s[0]=b:=by simpa using hb0
    subst this;have hle:sh s[0].toNat=true:=by simp_all
    simp only[sh,qS]at *;simp only[pT,cJ,jt]at hle;simp only[DV,nQ];omega
 all_goals
  have hie:i=s.length:=ac;all_goals (refine⟨zdZ,_,zd6,?_⟩;try simp only[zdY])
  rw[hie]at hJ;simp[p9]at hJ;unfold sm;cases s<;>simp_all<;>omega)
def ze2(l:List (List UInt8))(s:List UInt8):Bool:=l.any fun x=>decide (x=s)
theorem Js(ρ:Nat->Int)(l:List (List UInt8))(s:List UInt8)(hl:l.length<2^60):bV Tryz.prog ρ 107 [fL l,.str s] (.bool (ze2 l s)):=zfq fit (pls:=pls) (l:=[]) trivial (.cons (xF _) (.cons (.str _) .nil)) (.bool _) (by
 have hw:=jm 107;refine zed (M:=18) (rs:=[.tmp 4]) (hw.call _) hw.ice hw.froz Tryz.func107 rfl rfl Jn.2 rfl ?_;dsimp only[Jn,zd8,Nat.reduceAdd];repeat' (first
  |(apply au ?_;clear hK K)|apply Rx.o ?_|(apply aT (fun hb hbp=>?_) (fun hb hbp=>?_)<;>try(cases hb;done))|apply am ?_|(apply zdQ fun K hK=>?_)|apply aA ?_|apply zdR ?_|apply aB ?_|apply zdT ?_)
 refine zeL [0,1] [] 5 l.length (fun i E H=>ze2 l s=ze2 (l.drop i) s) eE aK ?_;rintro i E H2 hi hcE hrH hnH hsI hJ;(try simp only[zec,zeb,aX,zdX,zd2,Nat.reduceBEq,Nat.reduceAdd,Nat.reduceLeDiff,tyF, *]at hcE);(try simp only[zec,zeb,aX,zdX,zd2,Nat.reduceBEq,Nat.reduceAdd,Nat.reduceLeDiff,tyF, *]at hrH);(try simp only[zea,zef,zeB,bT,Nat.reduceAdd]at hnH);repeat' (first
  |(apply au ?_;clear hK K)|apply Rx.o ?_|(apply aT (fun hb hbp=>?_) (fun hb hbp=>?_)<;>try(cases hb;done))|apply am ?_|(apply zdQ fun K hK=>?_)|apply aA ?_|apply zdR ?_|apply aB ?_|apply zdT ?_)
 .have hlt:i<l.length:=by simpa using hb
  have hgx:l[i]?=some l[i]:=br hlt;have hdr:ze2 (l.drop i) s=(decide (l[i]=s)||ze2 (l.drop (i+1)) s):=ki;repeat' (first
   |(apply au ?_;clear hK K)|apply Rx.o ?_|(apply aT (fun hb hbp=>?_) (fun hb hbp=>?_)<;>try(cases hb;done))|apply am ?_|(apply zdQ fun K hK=>?_)|apply aA ?_|apply zdR ?_|apply aB ?_|apply zdT ?_)
  .all_goals (refine⟨zdZ,_,zd6,?_⟩;try simp only[zdY])
   rw[hJ,hdr];simp_all
  .refine⟨ac,zd7,zd7,eN,oZ,?_⟩;rw[hJ,hdr];simp_all
 .all_goals (refine⟨zdZ,_,zd6,?_⟩;try simp only[zdY])
  rw[hJ,show i=l.length by simp at hb;omega];simp[ze2])
def qY(op:Int):Bool:=decide (4<=op)&&decide (op<=18)
theorem Xm(ρ:Nat->Int)(op:Int):bV Tryz.prog ρ 147 [.int .i64 op] (.bool (qY op)):=zfq fit (pls:=pls) (l:=[]) trivial (.cons (.int _ _) .nil) (.bool _) (by
 have hw:=jm 147;refine zed (M:=9) (rs:=[.tmp 2]) (hw.call _) hw.ice hw.froz Tryz.func147 rfl rfl Jo.2 rfl ?_;dsimp only[Jo,zd8,Nat.reduceAdd];repeat' (first
  |(apply au ?_;clear hK K)|apply Rx.o ?_|(apply bQ (fun hg hgp=>?_) (fun hg hgp=>?_)<;>try(cases hg;done))|apply am ?_|(apply zdQ fun K hK=>?_)|apply aB ?_)
 all_goals (refine⟨zdZ,_,zd6,?_⟩;try simp only[zdY])
 all_goals (simp_all[qY]<;>omega))
def zeroE(x:Ex):Bool:=decide (x.kind=0)&&decide (x.n=0)&&decide (x.name=[])&&decide (x.op=0)&&decide (x.kids.length=0)
theorem Xn(ρ:Nat->Int)(x:Ex):bV Tryz.prog ρ 170 [.agg x.cells] (.bool (zeroE x)):=zfq fit (pls:=pls) (l:=[]) trivial (.cons (.agg x.pure) .nil) (.bool _) (by
 have hw:=jm 170;refine zed (M:=27) (rs:=[.tmp 2]) (hw.call _) hw.ice hw.froz Tryz.func170 rfl rfl Jp.2 rfl ?_;dsimp only[Jp,zd8,Nat.reduceAdd];repeat' (first
  |(apply au ?_;clear hK K)|apply Rx.o ?_|(apply bQ (fun hg hgp=>?_) (fun hg hgp=>?_)<;>try(cases hg;done))|apply am ?_|(apply zdQ fun K hK=>?_)|apply aB ?_)
 all_goals
  all_goals (refine⟨zdZ,_,zd6,?_⟩;try simp only[zdY])
 all_goals simp_all[zeroE])
def zfc:List Fu->List UInt8->Int->Int
 |[],_,_=>-1
 |f::l,s,i=>if f.name=s then i else zfc l s (i+1)
theorem Xo(ρ:Nat->Int)(p:Pr)(s:List UInt8)(hl:p.funcs.length<2^60):bV Tryz.prog ρ 108 [.agg p.cells,.str s] (.int .i64 (zfc p.funcs s 0)):=zfq fit (pls:=pls) (l:=[]) trivial (.cons (.agg p.pure) (.cons (.str _) .nil)) (.int _ _) (by
 have hw:=jm 108;refine zed (M:=22) (rs:=[.tmp 4]) (hw.call _) hw.ice hw.froz Tryz.func108 rfl rfl Jq.2 rfl ?_;dsimp only[Jq,zd8,Nat.reduceAdd];repeat' (first
  |(apply au ?_;clear hK K)|apply Rx.o ?_|(apply aT (fun hb hbp=>?_) (fun hb hbp=>?_)<;>try(cases hb;done))|apply am ?_|(apply zdQ fun K hK=>?_)|apply aA ?_|apply zdR ?_|apply aB ?_|apply zdT ?_)
 refine zeL [1,2] [0] 5 p.funcs.length (fun i E H=>zfc p.funcs s 0=zfc (p.funcs.drop i) s i) eE aK ?_;rintro i E H2 hi hcE hrH hnH hsI hJ;(try simp only[zec,zeb,aX,zdX,zd2,Nat.reduceBEq,Nat.reduceAdd,Nat.reduceLeDiff,tyF, *]at hcE);(try simp only[zec,zeb,aX,zdX,zd2,Nat.reduceBEq,Nat.reduceAdd,Nat.reduceLeDiff,tyF, *]at hrH);(try simp only[zea,zef,zeB,bT,Nat.reduceAdd]at hnH);have hB0:(0 == H2.next)=false:=zeq ac;have hC0:(H2.next == 0)=false:=zeq ac;repeat' (first
  |(apply au ?_;clear hK K)|apply Rx.o ?_|(apply aT (fun hb hbp=>?_) (fun hb hbp=>?_)<;>try(cases hb;done))|apply am ?_|(apply zdQ fun K hK=>?_)|apply aA ?_|apply zdR ?_|apply aB ?_|apply zdT ?_)
 .have hlt:i<p.funcs.length:=by simpa using hb
  have hgx:p.funcs[i]?=some p.funcs[i]:=br hlt;have hdr:zfc (p.funcs.drop i) s i=if p.funcs[i].name=s then (i:Int)else zfc (p.funcs.drop (i+1)) s (i+1):=ki
  repeat' (first
   |(apply au ?_;clear hK K)|apply Rx.o ?_|(apply aT (fun hb hbp=>?_) (fun hb hbp=>?_)<;>try(cases hb;done))|apply am ?_|(apply zdQ fun K hK=>?_)|apply aA ?_|apply zdR ?_|apply aB ?_|apply zdT ?_)
  .all_goals (refine⟨zdZ,_,zd6,?_⟩;try simp only[zdY])
   rw[hJ,hdr,aE (by simp_all)]
  .refine⟨ac,zd7,zd7,eN,tW,?_⟩;rw[hJ,hdr,ah (by simp_all)];rfl
 .all_goals (refine⟨zdZ,_,zd6,?_⟩;try simp only[zdY])
  rw[hJ,show i=p.funcs.length by simp at hb;omega];simp[zfc])
def mP:List (List UInt8):=[[97,114,114,97,121],[102,117,110,99],[118,97,114],[114,101,116,117,114,110],[105,102],[101,108,115,101],[119,104,105,108,101],[111,117,116],[116,114,97,112]]
theorem Jt(s:List UInt8):ze2 mP s=tU s:=by
 simp only[ze2,mP,tU,qV,so,Ai,<-DW];simp only[eq_comm]
theorem Xp(H:Hp)(a b c d e f g h i:List UInt8):zfn Tryz.prog H 59 9 [(0,.str a),(1,.str b),(2,.str c),(3,.str d),(4,.str e),(5,.str f),(6,.str g),(7,.str h),(8,.str i)]=some (.sl H.next 0 9 1,H.alloc (.cells ([a,b,c,d,e,f,g,h,i].map .str) 0 true)):=aC
theorem Xq(ρ:Nat->Int)(s:List UInt8):bV Tryz.prog ρ 81 [.str s] (.bool (tU s)):=zfq fit (pls:=pls) (l:=[]) trivial (.cons (.str _) .nil) (.bool _) (by
 have hw:=jm 81;refine zed (M:=18) (rs:=[.tmp 2]) (hw.call _) hw.ice hw.froz Tryz.func81 rfl rfl Jl.2 rfl ?_;dsimp only[Jl,zd8,Nat.reduceAdd];have gh0:=@Xp;repeat' (first
  |(apply au ?_;clear hK K)|apply Rx.o ?_|(apply aT (fun hb hbp=>?_) (fun hb hbp=>?_)<;>try(cases hb;done))|apply am ?_|(apply zdQ fun K hK=>?_)|apply aA ?_|apply zdR ?_|apply aB ?_|apply zdT ?_)
 refine zeL [0,3] [0] 4 9 (fun i E H=>ze2 mP s=ze2 (mP.drop i) s) eE aK ?_;rintro i E H2 hi hcE hrH hnH hsI hJ;(try simp only[zec,zeb,aX,zdX,zd2,Nat.reduceBEq,Nat.reduceAdd,Nat.reduceLeDiff,tyF, *]at hcE);(try simp only[zec,zeb,aX,zdX,zd2,Nat.reduceBEq,Nat.reduceAdd,Nat.reduceLeDiff,tyF, *]at hrH);(try simp only[zea,zef,zeB,bT,Nat.reduceAdd]at hnH);have hB0:(0 == H2.next)=false:=zeq ac;have hC0:(H2.next == 0)=false:=zeq ac;change H2.get 0=some (.cells (mP.map .str) 0 true)at hrH;have hr9:mP.length=9:=rfl;repeat' (first
  |(apply au ?_;clear hK K)|apply Rx.o ?_|(apply aT (fun hb hbp=>?_) (fun hb hbp=>?_)<;>try(cases hb;done))|apply am ?_|(apply zdQ fun K hK=>?_)|apply aA ?_|apply zdR ?_|apply aB ?_|apply zdT ?_)
 .have hlt:i<mP.length:=by omega
  have hgx:mP[i]?=some mP[i]:=br hlt;have hdr:ze2 (mP.drop i) s=(decide (mP[i]=s)||ze2 (mP.drop (i+1)) s):=ki;have hi9:decide (i<9)=true:=cT;repeat' (first
   |(apply au ?_;clear hK K)|apply Ry.o ?_|(apply aV (fun hb hbp=>?_) (fun hb hbp=>?_)<;>try(cases hb;done))|apply am ?_|(apply zdQ fun K hK=>?_)|apply aA ?_|apply zdR ?_|apply aB ?_|apply zdT ?_)
  .all_goals (refine⟨zdZ,_,zd6,?_⟩;try simp only[zdY])
   rw[<-Jt,hJ,hdr];simp_all
  .refine⟨ac,Jh,Jh,eN,(by simp only[zdX,Nat.reduceBEq, *];exact zfQ (n:=9) ac ac),?_⟩;rw[hJ,hdr];simp_all
 .all_goals (refine⟨zdZ,_,zd6,?_⟩;try simp only[zdY])
  rw[<-Jt,hJ,show i=9 by omega];rfl)
def pe(s:List UInt8):List AV:=[.str s]
theorem xM(x y:List UInt8)(h:pe x=pe y):x=y:=by simpa [pe]using h
noncomputable def xN:En:=⟨80,false,cy (fun s=>s.length<2^60) pe fun s=>.bool (sm s)⟩
noncomputable def xO:En:=⟨81,false,cy (fun _=>True) pe fun s=>.bool (tU s)⟩
theorem Xr(ρ:Nat->Int):zeO Tryz.prog ρ xN:=zeV fun s hs=>Xl ρ s hs
theorem Xs(ρ:Nat->Int):zeO Tryz.prog ρ xO:=zeV fun s _=>Xq ρ s
theorem Xt(ρ:Nat->Int)(s:List UInt8)(hs:s.length<2^60):bV Tryz.prog ρ 46 [.str s] (.bool (zfG s)):=zfq fit (pls:=pls) (l:=[xN,xO]) ⟨Xr ρ,Xs ρ,trivial⟩ (.cons (.str _) .nil) (.bool _) (by
 have hw:Plain (zdW pls [xN,xO]) 46:=zfv (fun _=>rfl) rfl;have kl:∀(H:Hp),zd5 Tryz.prog (zdW pls [xN,xO]) 80 [.str s] H fun v H'=>v=.bool (sm s)/\H'=H:=fun H=>zeJ (enc:=pe) (out:=fun n=>.bool (sm n)) xM (x:=s) rfl hs;have kd:∀(H:Hp),zd5 Tryz.prog (zdW pls [xN,xO]) 81 [.str s] H fun v H'=>v=.bool (tU s)/\H'=H:=fun H=>zeJ (enc:=pe) (out:=fun n=>.bool (tU n)) xM (x:=s) rfl trivial;refine zed (M:=10) (rs:=[.tmp 2]) (hw.call _) hw.ice hw.froz Tryz.func46 rfl rfl Jm.2 rfl ?_;dsimp only[Jm,zd8,Nat.reduceAdd];repeat' (first
  |(apply au ?_;clear hK K)|apply Rx.o ?_|(apply eu ?_;first|refine Rx.k (kl _) ?_|refine Rx.k (kd _) ?_)|(apply bQ (fun hg hgp=>?_) (fun hg hgp=>?_)<;>try(cases hg;done))|apply am ?_|(apply zdQ fun K hK=>?_)|apply aB ?_)
 all_goals (refine⟨zdZ,_,zd6,?_⟩;try simp only[zdY])
 all_goals (simp_all[zfG]))
end
def ze9(H:Hp)(v:AV)(l:List (List UInt8))(lo:Nat):Prop:=∃r imm,v=.sl r 0 l.length 1/\H.get r=some (.cells (l.map .str) imm true)/\imm<=l.length/\lo<=r/\r<H.next
def eg(H:Hp)(v:AV)(l:List (List UInt8))(lo:Nat):Prop:=(v=.nilS/\l=[])\/ze9 H v l lo
theorem ze9.low{H H':Hp}{v:AV}{l:List (List UInt8)}{lo:Nat}(h:ze9 H v l lo)(hn:H.next<=H'.next)(hg:∀k,lo<=k->k<H.next->H'.get k=H.get k):ze9 H' v l lo:=by
 obtain⟨r,imm,h1,h2,h3,h4,h5⟩:=h;exact⟨r,imm,h1,DS,h3,h4,ac⟩
def zd3(v:AV)(k:Nat):Prop:=∃n,v=.sl k 0 n 1
def ph(v v':AV)(H H':Hp):Prop:=(∀k,k<H.next->¬zd3 v k->H'.get k=H.get k)/\∀k,zd3 v' k->zd3 v k\/H.next<=k
theorem ze9.lt{H:Hp}{v:AV}{l:List (List UInt8)}{lo:Nat}(h:ze9 H v l lo){k:Nat}(hk:zd3 v k):lo<=k/\k<H.next:=by
 obtain⟨r,imm,rfl,_,_,h4,h5⟩:=h;obtain⟨n,e⟩:=hk;simp only[AV.sl.injEq]at e;rw[<-e.1];exact⟨h4,h5⟩
theorem eg.lt{H:Hp}{v:AV}{l:List (List UInt8)}{lo:Nat}(h:eg H v l lo){k:Nat}(hk:zd3 v k):lo<=k/\k<H.next:=by
 rcases h with⟨rfl,_⟩|h
 .obtain⟨n,e⟩:=hk;simp at e
 .exact h.lt hk
theorem ze9.keep{H H':Hp}{v:AV}{l:List (List UInt8)}{lo:Nat}(h:ze9 H v l lo)(hn:H.next<=H'.next)(hg:∀k,zd3 v k->H'.get k=H.get k):ze9 H' v l lo:=by
 obtain⟨r,imm,rfl,h2,h3,h4,h5⟩:=h;exact⟨r,imm,rfl,Ae,h3,h4,ac⟩
theorem eg.keep{H H':Hp}{v:AV}{l:List (List UInt8)}{lo:Nat}(h:eg H v l lo)(hn:H.next<=H'.next)(hg:∀k,zd3 v k->H'.get k=H.get k):eg H' v l lo:=h.imp id fun h=>h.keep hn hg
theorem Ju(l:List (List UInt8)):(l.map AV.str).all AV.one=true:=by simp[AV.one]
theorem Am(m:List (List UInt8)):(m.map fun s=>[AV.str s]).flatten=m.map .str:=by induction m with
 |nil=>rfl
 |cons a m ih=>simp[ih]
theorem Xu(H:Hp)(m:List (List UInt8)):zfz H 1 (fL m)=some (m.length,m.map .str):=by
 have e:zfz H 1 (fL m)=if ((m.map fun s=>[AV.str s]).all fun row=>row.length == 1)then some ((m.map fun s=>[AV.str s]).length,(m.map fun s=>[AV.str s]).flatten)else none:=rfl
 rw[e,aE aK,Am,dy]
theorem D0{H:Hp}{r imm:Nat}{m:List (List UInt8)}(h:H.get r=some (.cells (m.map .str) imm true)):zfz H 1 (.sl r 0 m.length 1)=some (m.length,m.map .str):=by
 have:=tI (H:=H) (r:=r) (o:=0) (n:=m.length) (z:=1) (s:=1) h aK;rw[this,gD,iq aK]
theorem D1{H:Hp}{v x:AV}{l m:List (List UInt8)}{lo:Nat}(hv:eg H v l lo)(hlo:lo<=H.next)(hx:zfz H 1 x=some (m.length,m.map .str))(hm:m≠[])(hb:l.length+m.length<2^40):
 ∃v' H',zeZ Tryz.prog false H 59 59 v x=some (v',H')/\ze9 H' v' (l++m) lo/\H'.next=H.next+1/\(∀k,k<lo->H'.get k=H.get k)/\ph v v' H H':=by
 obtain⟨n,hn⟩:∃n,m.length=n+1:=⟨m.length-1,Af⟩;have hmr:zfw=70368744177664:=rfl;rw[hn]at hx;rcases hv with⟨rfl,rfl⟩|⟨r,imm,rfl,h2,h3,h4,h5⟩
 .refine⟨.sl H.next 0 (n+1) 1,H.alloc (.cells (m.map .str) 0 true),append_nil Tryz.underlying59 tN vn vo aC hx (Ju m) rfl jQ jQ,⟨H.next,0,qT,ev,ac,hlo,cL _⟩,rfl,fun k hk=>ez,fun k hk _=>ez,fun k hk=>.inr ?_⟩;obtain⟨n',e⟩:=hk;simp only[AV.sl.injEq]at e;omega
 .have htr:gW false H 1 (.sl r 0 l.length 1)=H:=by
   unfold gW;simp only[h2,bT,dy,lY];have:Nat.blt l.length l.length=false:=by
    cases hb:Nat.blt l.length l.length with
    |false=>rfl
    |true=>rw[iW]at hb;omega
   simp[this]
  refine⟨.sl H.next 0 (l.length+(n+1)) 1,(H.kill r).alloc (.cells (l.map .str++m.map .str) (imm-0) true),?_,⟨H.next,imm,qT,?_,cT,hlo,cL _⟩,rfl,fun k hk=>?_,fun k hk hno=>?_,fun k hk=>.inr ?_⟩
  .simp only[zeZ,Tryz.underlying59,tN,vn,vo,show zfT Tryz.prog 59=true by kernel_rfl,hx,Ju,htr,oR,bN,mF,ja,h2,dy,bT,lY,gD];rw[aE ⟨jQ,jQ,trivial,trivial,h3⟩];simp
  .show((H.kill r).alloc _).get (H.kill r).next=_
   rw[zd1,aE rfl];simp
  .rw[zd1,ah l8,zfU,ah ac]
  .rw[zd1,ah l8,zfU,ah (fun e=>hno ⟨_,lZ⟩)]
  .obtain⟨n',e⟩:=hk;simp only[AV.sl.injEq]at e;omega
theorem vC{H:Hp}{v:AV}{l:List (List UInt8)}{lo:Nat}(m:List (List UInt8))(hv:ze9 H v l lo)(hlo:lo<=H.next)(hb:l.length+m.length<2^40):
 ∃v' H',zeZ Tryz.prog false H 59 59 v (fL m)=some (v',H')/\ze9 H' v' (l++m) lo/\H.next<=H'.next/\(∀k,k<lo->H'.get k=H.get k)/\ph v v' H H':=by
 by_cases hm:m=[]
 .subst hm;refine⟨v,H,?_,Ag,aM _,fun _ _=>rfl,fun _ _ _=>rfl,fun _ h=>.inl h⟩;obtain⟨r,imm,rfl,h2,_⟩:=hv;simp only[zeZ,Tryz.underlying59,tN,vn,vo,show zfT Tryz.prog 59=true by kernel_rfl,kP,zfz,nT,bN,fV]
 .obtain⟨v',H',h1,h2,h3,h4⟩:=D1 (.inr hv) hlo (Xu H m) hm hb;exact⟨v',H',h1,h2,ac,h4⟩
theorem xP{H:Hp}{v:AV}{l:List (List UInt8)}{lo r imm:Nat}(s:List UInt8)(hv:eg H v l lo)(hlo:lo<=H.next)(hs:H.get r=some (.cells [.str s] imm true))(hb:l.length<2^39):
 ∃v' H',zeZ Tryz.prog false H 59 59 v (.sl r 0 1 1)=some (v',H')/\ze9 H' v' (l++[s]) lo/\H'.next=H.next+1/\(∀k,k<lo->H'.get k=H.get k)/\ph v v' H H':=
 D1 hv hlo (D0 (m:=[s]) hs) aK cT
theorem Xv{H:Hp}{v w:AV}{l m:List (List UInt8)}{lo lo':Nat}(hv:ze9 H v l lo)(hlo:lo<=H.next)(hw:eg H w m lo')(hb:l.length+m.length<2^40):
 ∃v' H',zeZ Tryz.prog false H 59 59 v w=some (v',H')/\ze9 H' v' (l++m) lo/\H.next<=H'.next/\(∀k,k<lo->H'.get k=H.get k)/\ph v v' H H':=by
 by_cases hm:m=[]
 .subst hm;refine⟨v,H,?_,Ag,aM _,fun _ _=>rfl,fun _ _ _=>rfl,fun _ h=>.inl h⟩;obtain⟨r,imm,rfl,h2,_⟩:=hv;rcases hw with⟨rfl,_⟩|⟨r',imm',rfl,g2,_⟩
  .simp only[zeZ,Tryz.underlying59,tN,vn,vo,show zfT Tryz.prog 59=true by kernel_rfl,zfz]
  .have g3:=D0 g2;simp only[fV]at g3;simp only[zeZ,Tryz.underlying59,tN,vn,vo,show zfT Tryz.prog 59=true by kernel_rfl,fV,g3]
 .rcases hw with⟨_,h⟩|⟨r',imm',rfl,g2,_⟩
  .exact(hm h).elim
  .obtain⟨v',H',h1,h2,h3,h4⟩:=D1 (.inr hv) hlo (D0 g2) hm hb;exact⟨v',H',h1,h2,ac,h4⟩
theorem ze9.len{H H':Hp}{v:AV}{l:List (List UInt8)}{lo:Nat}(h:ze9 H v l lo):zeR Tryz.prog H' 59 v=some (.int .i64 l.length):=by
 obtain⟨r,imm,rfl,_⟩:=h;exact zgg Tryz.underlying59 _ _ _ _
theorem ze9.at{H:Hp}{v:AV}{l:List (List UInt8)}{lo:Nat}(h:ze9 H v l lo){i:Nat}(hi:i<l.length):
 ∃r,zeE Tryz.prog 59 v (.int .i64 (i:Int))=some (.ptr r i)/\zfC Tryz.prog H 9 (.ptr r i)=some (.str l[i]):=by
 obtain⟨r,imm,rfl,h2,_⟩:=h;refine⟨r,?_,?_⟩
 .rw[mL Tryz.underlying59 tN hi];simp
 .rw[r0 Tryz.underlying9 rfl h2,fF,br hi];rfl
theorem ze9.one{H:Hp}{v:AV}{l:List (List UInt8)}{lo:Nat}(h:ze9 H v l lo):AV.one v=true/\v.cells=[v]:=by
 obtain⟨r,imm,rfl,_⟩:=h;exact⟨rfl,rfl⟩
theorem Xw(l:List (List UInt8)):gY 1 l.length (l.map .str)=l.map fun s=>[AV.str s]:=by
 induction l with
 |nil=>rfl
 |cons a l ih=>simp[gY,ih]
theorem Jv(n:Nat):∀(l:List (List UInt8)) (H:Hp),jY (eY (n+1)) (l.map .str) H=some (l.map .str,H)
 |[],H=>rfl
 |a::l,H=>by
  have:=Jv n l H;have e:eY (n+1) (.str a) H=some (.str a,H):=rfl;simp only[eF,jY,e,this]
theorem ze9.ice{H:Hp}{v:AV}{l:List (List UInt8)}{lo:Nat}(h:ze9 H v l lo)(n:Nat):
 ∃H',eY (n+2) v H=some (fL l,H')/\ze9 H' v l lo/\H'.next=H.next/\(∀k,k<lo->H'.get k=H.get k)/\∀k,¬zd3 v k->H'.get k=H.get k:=by
 obtain⟨r,imm,rfl,h2,h3,h4,h5⟩:=h;refine⟨H.set r (.cells (l.map .str) (max imm l.length) true),?_,⟨r,max imm l.length,rfl,ft,ac,h4,h5⟩,rfl,fun k hk=>iA,fun k hk=>by rw[bz,ah (fun e=>hk ⟨_,lZ⟩)]⟩;have e:eY (n+2) (.sl r 0 l.length 1) H=match H.get r with
  |some (.cells cs imm tip)=>match Nat.ble (0+l.length*1) cs.length&&Nat.ble imm cs.length with
   |true=>match jY (eY (n+1)) ((cs.drop 0).take (l.length*1)) (H.set r (.cells cs (max imm (0+l.length*1)) tip))with
    |some (l',H)=>some (.lst (gY 1 l.length l'),H)
    |none=>none
   |false=>none
  |_=>none:=rfl
 rw[e,h2];simp only[dy,bT,lY,gD];have h6:Nat.ble l.length l.length=true:=Ah;have h7:Nat.ble imm l.length=true:=Ah;rw[h6,h7];simp only[xh];rw[iq aK,Jv];simp only[Xw]
theorem bV.args{P:Program}{ρ:Nat->Int}{f:FuncId}{args args':List AV}{r:AV}(h:bV P ρ f args r)(hv:∀(G:Gh) vs,cr G args' vs->cr G args vs):bV P ρ f args' r:=
 ⟨h.1,fun G w vs h1 h2 h3=>h.2 G w vs h1 h2 (hv G vs h3)⟩
theorem Xx{G:Gh}{a:List AV}{vs:List Value}(h:cr G (.nilS::a) vs):cr G (fL []::a) vs:=by
 cases vs with
 |nil=>have:=h.1;simp at this
 |cons v vs=>
  obtain⟨g1,g2⟩:=h.of_cons;cases g1;exact iE (.lst0 _ _) g2
def qZ(x:Option (List (List UInt8))×List UInt8):List AV:=match x with
 |(none,s)=>[.nilS,.str s]
 |(some l,s)=>[fL l,.str s]
theorem D2(x y:Option (List (List UInt8))×List UInt8)(h:qZ x=qZ y):x=y:=by
 obtain⟨a,s⟩:=x;obtain⟨b,u⟩:=y;cases a<;>cases b<;>simp only[qZ,eD,AV.str.injEq,AV.lst.injEq,aX,reduceCtorEq,false_and,mJ]at h
 .rw[h]
 .rw[xG h.1,h.2]
noncomputable def qd:En:=⟨107,true,cy (fun x=>(x.1.getD []).length<2^60) qZ fun x=>.bool (ze2 (x.1.getD []) x.2)⟩
theorem D3(ρ:Nat->Int):zeO Tryz.prog ρ qd:=zeV fun x hx=>by
 obtain⟨a,s⟩:=x;cases a with
 |none=>exact bV.args (Js ρ [] s aK) fun G vs h=>Xx h
 |some l=>exact Js ρ l s hx
theorem D4{l:List En}(hl:∀ar,zeN l 107 ar=qd.sp ar)(hi:jx l 107=true){H:Hp}{v:AV}{r:List (List UInt8)}{lo:Nat}(hv:eg H v r lo)(hr:r.length<2^60)(s:List UInt8):
 zd5 Tryz.prog (zdW pls l) 107 [v,.str s] H fun w H'=>w=.bool (ze2 r s)/\eg H' v r lo/\H'.next=H.next/\(∀k,k<lo->H'.get k=H.get k)/\∀k,¬zd3 v k->H'.get k=H.get k:=by
 rcases hv with⟨rfl,rfl⟩|hv
 .refine bp ?_ (zeJ (enc:=qZ) (out:=fun x=>.bool (ze2 (x.1.getD []) x.2)) D2 (x:=(none,s)) (hl _) hr);rintro w _ ⟨rfl,rfl⟩;exact⟨rfl,.inl ⟨rfl,rfl⟩,rfl,fun _ _=>rfl,fun _ _=>rfl⟩
 .obtain⟨H',h1,h2,h3,h4⟩:=hv.ice 98;have hne:∀y,(y.1.getD []).length<2^60->qZ y≠[v,.str s]:=fun y _ e=>by
   obtain⟨q,imm,rfl,_⟩:=hv;obtain⟨a,u⟩:=y;cases a<;>simp[qZ]at e
  refine bp ?_ (DQ (enc:=qZ) (out:=fun x=>.bool (ze2 (x.1.getD []) x.2)) D2 (x:=(some r,s)) hl hi hr hne (H':=H') ?_)
  .rintro w _ ⟨rfl,rfl⟩;exact⟨rfl,.inr h2,h3,h4⟩
  .show jY (eY 100) [v,.str s] H=some ([fL r,.str s],H');simp only[jY,h1];rfl
end Go.Proofs.YtpbcimfiofmoeaaGreat
namespace Go.Ab
set_option maxRecDepth 20000
open Go
def cP:Nat->AV->AV
 |0,v=>v
 |n+1,v=>match v with
  | .nilS=>.lst []
  | .lst xs=>.lst (xs.map fun row=>row.map (cP n))
  | .agg cs=>.agg (cs.map (cP n))
  | .tup cs=>.tup (cs.map (cP n))
  |v=>v
theorem VR.wk{G:Gh}:∀(n:Nat) {v:AV}{x:Value},VR G v x->VR G (cP n v) x
 |0,_,_,h=>h
 |n+1,v,x,h=>by
  cases h with
  |nilS=>exact .lst0 _ _
  |lst vs hz hF hv hc=>
   rename_i xs b o cap z;have:=VR.lst (G:=G) (xs:=xs.map fun row=>row.map (cP n)) (b:=b) (o:=o) (cap:=cap) (z:=z) vs ?_ ?_ ?_ ?_
   .rw[dy]at this;exact this
   .intro i row hr;rw[fF]at hr;cases hx:xs[i]? with
    |none=>rw[hx]at hr;simp at hr
    |some zee=>rw[hx]at hr;simp only[ju]at hr;rw[<-hr,dy];exact hz i zee hx
   .intro i j hi hj;rw[dy]at hi;exact hF i j hi hj
   .intro i j row c hr hc2;rw[fF]at hr;cases hx:xs[i]? with
    |none=>rw[hx]at hr;simp at hr
    |some zee=>
     rw[hx]at hr;simp only[ju]at hr;rw[<-hr,fF]at hc2;cases hy:zee[j]? with
     |none=>rw[hy]at hc2;simp at hc2
     |some c0=>rw[hy]at hc2;simp only[ju]at hc2;rw[<-hc2];exact VR.wk n (hv i j zee c0 hx hy)
   .rw[dy];exact hc
  |lst0 a cap=>exact .lst0 a cap
  |agg hl hv=>
   refine .agg (by rw[dy];exact hl) fun i c v hc hv2=>?_;rw[fF]at hc;rename_i cs vs;cases hy:cs[i]? with
   |none=>rw[hy]at hc;simp at hc
   |some c0=>rw[hy]at hc;simp only[ju]at hc;rw[<-hc];exact VR.wk n (hv i c0 v hy hv2)
  |tup hl hv=>
   refine .tup (by rw[dy];exact hl) fun i c v hc hv2=>?_;rw[fF]at hc;rename_i cs vs;cases hy:cs[i]? with
   |none=>rw[hy]at hc;simp at hc
   |some c0=>rw[hy]at hc;simp only[ju]at hc;rw[<-hc];exact VR.wk n (hv i c0 v hy hv2)
  |int k m=>exact .int k m
  |sx k e=>exact .sx k e
  |bool b=>exact .bool b
  |str s l h=>exact .str s l h
  |nilP=>exact .nilP
  |nilM=>exact .nilM
  |nilF=>exact .nilF
  |ptr h=>exact .ptr h
  |iptr vs hF hv=>exact .iptr vs hF hv
  |sl h hl hc=>exact .sl h hl hc
  |map h=>exact .map h
  |clo hl hv=>exact .clo hl hv
theorem bV.wk{P:Program}{ρ:Nat->Int}{f:FuncId}{args:List AV}{r:AV}(n:Nat)(h:bV P ρ f args r):bV P ρ f args (cP n r):=
 ⟨h.1,fun G w vs h1 h2 h3=>(h.2 G w vs h1 h2 h3).mono fun _ _ ⟨v,F1,h4,h5,h6⟩=>⟨v,F1,h4,h5.wk n,h6⟩⟩
theorem An{P:Program}{ρ:Nat->Int}{f:FuncId}{args:List AV}{r r':AV}(n:Nat)(h:bV P ρ f args r)(e:cP n r=r'):bV P ρ f args r':=e▸h.wk n
def dk{α β:Type}(p:α->β->Prop):List α->List β->Prop
 |[],[]=>True
 |a::l,b::m=>p a b/\dk p l m
 |_,_=>False
theorem dk.len{α β:Type}{p:α->β->Prop}:∀{l:List α}{m:List β},dk p l m->l.length=m.length
 |[],[],_=>rfl
 |_::_,_::_,h=>by simp only[fj,dk.len h.2]
theorem dk.mono{α β:Type}{p q:α->β->Prop}(h:∀a b,p a b->q a b):∀{l:List α}{m:List β},dk p l m->dk q l m
 |[],[],_=>trivial
 |_::_,_::_,k=>⟨h _ _ k.1,dk.mono h k.2⟩
theorem dk.append{α β:Type}{p:α->β->Prop}:∀{l:List α}{m:List β}{l':List α}{m':List β},dk p l m->dk p l' m'->dk p (l++l') (m++m')
 |[],[],_,_,_,h=>h
 |_::_,_::_,_,_,h,k=>⟨h.1,dk.append h.2 k⟩
theorem dk.get{α β:Type}{p:α->β->Prop}:∀{l:List α}{m:List β},dk p l m->∀{i:Nat}{a:α}{b:β},l[i]?=some a->m[i]?=some b->p a b
 |[],[],_,i,_,_,h,_=>by simp at h
 |a::l,b::m,h,0,_,_,h1,h2=>by
  simp only[nP,aQ]at h1 h2;subst h1;subst h2;exact h.1
 |a::l,b::m,h,i+1,_,_,h1,h2=>dk.get h.2 zk (by simpa using h2)
theorem dk.set{α β:Type}{p:α->β->Prop}:∀{l:List α}{m:List β},dk p l m->∀{i:Nat}{a:α}{b:β},p a b->dk p (l.set i a) (m.set i b)
 |[],[],_,i,_,_,_=>by simp[dk]
 |_::_,_::_,h,0,_,_,k=>⟨k,h.2⟩
 |_::_,_::_,h,i+1,_,_,k=>⟨h.1,dk.set h.2 k⟩
def Jw(v:AV):Prop:=fG v/\match v with
 | .sl _ _ _ _|.agg _=>False
 |_=>True
def zeS(S:Nat->Prop):Nat->Hp->AV->AV->Prop
 |0,_,_,_=>False
 |n+1,H,v,u=>match v with
  | .sl r off len z=>S r/\r<H.next/\∃cs imm tip l,H.get r=some (.cells cs imm tip)/\imm<=cs.length/\off+len*z<=cs.length/\dk (zeS S n H) ((cs.drop off).take (len*z)) l/\u=.lst (gY z len l)
  | .agg cs=>∃ds,dk (zeS S n H) cs ds/\u=.agg ds
  |v=>fG v/\u=v
theorem zeS.flat{S:Nat->Prop}{n:Nat}{H:Hp}{v:AV}(h:Jw v):zeS S (n+1) H v v:=by
 cases v<;>first|exact h.2.elim|exact⟨h.1,rfl⟩
def nV:=@zeS.flat
theorem zeS.up{S:Nat->Prop}{H:Hp}:∀{n m:Nat}{v u:AV},zeS S n H v u->n<=m->zeS S m H v u
 |0,_,_,_,h,_=>h.elim
 |n+1,0,_,_,_,hm=>by omega
 |n+1,m+1,v,u,h,hm=>by
  cases v with
  |sl r off len z=>
   obtain⟨h1,h0,cs,imm,tip,l,h2,h3,h4,h5,h6⟩:=h;exact⟨h1,h0,cs,imm,tip,l,h2,h3,h4,h5.mono fun a b k=>zeS.up k ac,h6⟩
  |agg cs=>
   obtain⟨ds,h1,h2⟩:=h;exact⟨ds,h1.mono fun a b k=>zeS.up k ac,h2⟩
  |_=>exact h
def kQ(a b:Option HB):Prop:=a=b\/∃cs i j tip,a=some (.cells cs i tip)/\b=some (.cells cs j tip)/\(i<=cs.length->j<=cs.length)
theorem kQ.refl(a:Option HB):kQ a a:=.inl rfl
theorem kQ.trans{a b c:Option HB}(h:kQ a b)(k:kQ b c):kQ a c:=by
 rcases h with rfl|⟨cs,i,j,tip,rfl,rfl,h⟩
 .exact k
 .rcases k with rfl|⟨cs',i',j',tip',e,rfl,k⟩
  .exact .inr ⟨cs,i,j,tip,rfl,rfl,h⟩
  .simp only[aQ,HB.cells.injEq]at e;obtain⟨rfl,rfl,rfl⟩:=e;exact .inr ⟨cs,i,j',tip,rfl,rfl,fun q=>k (h q)⟩
theorem zeS.frame2{S S':Nat->Prop}{H H':Hp}(hS:∀k,k<H.next->S k->S' k)(hn:H.next<=H'.next)(hf:∀k,S k->k<H.next->kQ (H.get k) (H'.get k)):∀{n:Nat}{v u:AV},zeS S n H v u->zeS S' n H' v u
 |0,_,_,h=>h.elim
 |n+1,v,u,h=>by
  cases v with
  |sl r off len z=>
   obtain⟨h1,h0,cs,imm,tip,l,h2,h3,h4,h5,h6⟩:=h;have h5':=h5.mono fun a b k=>zeS.frame2 hS hn hf k;rcases hf r h1 h0 with e|⟨cs',i,j,tip',e1,e2,e3⟩
   .exact⟨hS r h0 h1,ac,cs,imm,tip,l,by rw[<-e];exact h2,h3,h4,h5',h6⟩
   .rw[h2]at e1;simp only[aQ,HB.cells.injEq]at e1;obtain⟨rfl,rfl,rfl⟩:=e1;exact⟨hS r h0 h1,ac,cs,j,tip,l,e2,e3 h3,h4,h5',h6⟩
  |agg cs=>
   obtain⟨ds,h1,h2⟩:=h;exact⟨ds,h1.mono fun a b k=>zeS.frame2 hS hn hf k,h2⟩
  |_=>exact h
theorem zeS.frame{S S':Nat->Prop}(hS:∀k,S k->S' k){H H':Hp}(hn:H.next<=H'.next)(hf:∀k,S k->k<H.next->kQ (H.get k) (H'.get k)){n:Nat}{v u:AV}(h:zeS S n H v u):zeS S' n H' v u:=h.frame2 (fun k _ q=>hS k q) hn hf
structure Icy (S:Nat->Prop) (H H':Hp):Prop where
 next:H'.next=H.next
 out:∀k,¬S k->H'.get k=H.get k
 same:∀k,kQ (H.get k) (H'.get k)
theorem Icy.refl(S:Nat->Prop)(H:Hp):Icy S H H:=⟨rfl,fun _ _=>rfl,fun _=>.inl rfl⟩
theorem Icy.trans{S:Nat->Prop}{a b c:Hp}(h:Icy S a b)(k:Icy S b c):Icy S a c:=⟨k.next.trans h.next,fun r hr=>(k.out r hr).trans (h.out r hr),fun r=>(h.same r).trans (k.same r)⟩
theorem Icy.ic{S S':Nat->Prop}{H H':Hp}(h:Icy S H H'){n:Nat}{v u:AV}(k:zeS S' n H v u):zeS S' n H' v u:=k.frame (fun _ q=>q) (qW h.next.symm) fun r _ _=>h.same r
theorem Ao{S:Nat->Prop}{n:Nat}(ih:∀{v u:AV}{H:Hp},zeS S n H v u->∃H',eY n v H=some (u,H')/\Icy S H H'):∀{l m:List AV}{H:Hp},dk (zeS S n H) l m->∃H',jY (eY n) l H=some (m,H')/\Icy S H H'
 |[],[],H,_=>⟨H,rfl,Icy.refl S H⟩
 |a::l,b::m,H,h=>by
  obtain⟨H1,h1,h2⟩:=ih h.1;obtain⟨H2,h3,h4⟩:=Ao ih (l:=l) (m:=m) (H:=H1) (h.2.mono fun a b k=>h2.ic k);exact⟨H2,by simp only[jY,h1,h3],h2.trans h4⟩
theorem zeS.ice{S:Nat->Prop}:∀{n:Nat}{v u:AV}{H:Hp},zeS S n H v u->∃H',eY n v H=some (u,H')/\Icy S H H'
 |0,_,_,_,h=>h.elim
 |n+1,v,u,H,h=>by
  cases v with
  |sl r off len z=>
   obtain⟨h1,h0,cs,imm,tip,l,h2,h3,h4,h5,rfl⟩:=h;have hset:Icy S H (H.set r (.cells cs (max imm (off+len*z)) tip)):=by
    refine⟨rfl,fun k hk=>by rw[bz,ah (fun e=>hk (by rw[e];exact h1))],fun k=>?_⟩;rw[bz];split
    .rename_i e;subst e;exact .inr ⟨cs,imm,max imm (off+len*z),tip,h2,rfl,fun _=>ac⟩
    .exact .inl rfl
   obtain⟨H',h6,h7⟩:=Ao (fun k=>zeS.ice k) (h5.mono fun a b k=>hset.ic k);refine⟨H',?_,hset.trans h7⟩;have e:eY (n+1) (.sl r off len z) H=match H.get r with
    |some (.cells cs imm tip)=>match Nat.ble (off+len*z) cs.length&&Nat.ble imm cs.length with
     |true=>match jY (eY n) ((cs.drop off).take (len*z)) (H.set r (.cells cs (max imm (off+len*z)) tip))with
      |some (l',H)=>some (.lst (gY z len l'),H)
      |none=>none
     |false=>none
    |_=>none:=rfl
   rw[e,h2];have e1:Nat.ble (off+len*z) cs.length=true:=by rw[Nat.ble_eq];exact h4
   have e2:Nat.ble imm cs.length=true:=by rw[Nat.ble_eq];exact h3
   simp only[e1,e2,xh,h6]
  |agg cs=>
   obtain⟨ds,h1,rfl⟩:=h;obtain⟨H',h2,h3⟩:=Ao (fun k=>zeS.ice k) h1;refine⟨H',?_,h3⟩;have e:eY (n+1) (.agg cs) H=match jY (eY n) cs H with
    |some (ds,H)=>some (.agg ds,H)
    |none=>none:=rfl
   rw[e,h2]
  |ptr r o=>
   obtain⟨k,hk⟩:=h.1;exact absurd (hk (k+1) ac H) (by simp[iceV])
  |map r=>
   obtain⟨k,hk⟩:=h.1;exact absurd (hk (k+1) ac H) (by simp[iceV])
  |_=>exact⟨H,by rw[show u=_ from h.2];rfl,Icy.refl S H⟩
theorem zeS.iceL{S:Nat->Prop}{n:Nat}{l m:List AV}{H:Hp}(h:dk (zeS S n H) l m):∃H',jY (eY n) l H=some (m,H')/\Icy S H H':=Ao (fun k=>zeS.ice k) h
theorem Ap{S:Nat->Prop}{n:Nat}{H:Hp}(ih:∀{v u:AV},zeS S n H v u->∃m0,∀m,m0<=m->iceV H m v=some u):∀{l k:List AV},dk (zeS S n H) l k->∃m0,∀m,m0<=m->iceL (iceV H m) l=some k
 |[],[],_=>⟨0,fun _ _=>rfl⟩
 |a::l,b::k,h=>by
  obtain⟨zeX,h1⟩:=ih h.1;obtain⟨m2,h2⟩:=Ap ih (l:=l) (k:=k) h.2;exact⟨max zeX m2,fun m hm=>by simp only[iceL,h1 m ac,h2 m ac]⟩
theorem zeS.iceV{S:Nat->Prop}{H:Hp}:∀{n:Nat}{v u:AV},zeS S n H v u->∃m0,∀m,m0<=m->iceV H m v=some u
 |0,_,_,h=>h.elim
 |n+1,v,u,h=>by
  cases v with
  |sl r off len z=>
   obtain⟨h1,h0,cs,imm,tip,l,h2,h3,h4,h5,rfl⟩:=h;obtain⟨m0,hm0⟩:=Ap (fun k=>zeS.iceV k) h5;refine⟨m0+1,fun m hm=>?_⟩;obtain⟨m,rfl⟩:∃k,m=k+1:=⟨m-1,ac⟩;have e:Ab.iceV H (m+1) (.sl r off len z)=match H.get r with
    |some (.cells cs _ _)=>match Ab.iceL (Ab.iceV H m) ((cs.drop off).take (len*z))with
     |some l'=>if l'.length=len*z then some (.lst (gY z len l'))else none
     |none=>none
    |_=>none:=rfl
   have hl:l.length=len*z:=by rw[<-h5.len,oK,mC];omega
   rw[e,h2];simp only[hm0 m ac,hl,bN]
  |agg cs=>
   obtain⟨ds,h1,rfl⟩:=h;obtain⟨m0,hm0⟩:=Ap (fun k=>zeS.iceV k) h1;refine⟨m0+1,fun m hm=>?_⟩;obtain⟨m,rfl⟩:∃k,m=k+1:=⟨m-1,ac⟩;have e:Ab.iceV H (m+1) (.agg cs)=match Ab.iceL (Ab.iceV H m) cs with
    |some ds=>some (.agg ds)
    |none=>none:=rfl
   rw[e,hm0 m ac]
  |_=>
   obtain⟨k,hk⟩:=h.1;exact⟨k,fun m hm=>by rw[hk m hm H,h.2]⟩
theorem Jx(z:Nat):∀(rows:List (List AV)),(∀r∈rows,r.length=z)->gY z rows.length rows.flatten=rows
 |[],_=>rfl
 |r::rows,h=>by
  have h1:=h r fm;rw[kK,fj];show(r++rows.flatten).take z::gY z rows.length ((r++rows.flatten).drop z)=_;rw[zd ac,iq ac,zp ac,ze ac,nH,Jx z rows fun q hq=>h q (gF _ hq)]
theorem vD{z:Nat}:∀{rows:List (List AV)},(∀r∈rows,r.length=z)->rows.flatten.length=rows.length*z
 |[],_=>by simp
 |r::rows,h=>by
  rw[kK,eO,h r fm,vD fun q hq=>h q (gF _ hq),fj,rU];omega
theorem dk.flat{p:AV->AV->Prop}:∀{a b:List (List AV)},dk (dk p) a b->dk p a.flatten b.flatten
 |[],[],_=>trivial
 |_::_,_::_,h=>by rw[kK,kK];exact h.1.append (dk.flat h.2)
theorem dk.rowlen{p:AV->AV->Prop}{z:Nat}:∀{a b:List (List AV)},dk (dk p) a b->(∀r∈a,r.length=z)->∀r∈b,r.length=z
 |[],[],_,_,r,hr=>by simp at hr
 |x::a,y::b,h,hz,r,hr=>by
  rcases iu.1 hr with rfl|hr
  .rw[<-h.1.len];exact hz x fm
  .exact dk.rowlen h.2 (fun q hq=>hz q (gF _ hq)) r hr
theorem zeS.rows{S:Nat->Prop}{n:Nat}{H:Hp}{r z imm:Nat}{tip:Bool}{a b:List (List AV)}(hS:S r)(hr:r<H.next)(hg:H.get r=some (.cells a.flatten imm tip))(hi:imm<=a.flatten.length)(hz:∀x∈a,x.length=z)(h:dk (dk (zeS S n H)) a b):zeS S (n+1) H (.sl r 0 a.length z) (.lst b):=by
 have hl:=vD hz;refine⟨hS,hr,a.flatten,imm,tip,b.flatten,hg,hi,ac,?_,?_⟩
 .rw[gD,iq ac];exact h.flat
 .rw[h.len,Jx z b (h.rowlen hz)]
theorem cr.wk{G:Gh}(n:Nat):∀{args:List AV}{vs:List Value},cr G args vs->cr G (args.map (cP n)) vs
 |[],vs,h=>h
 |a::l,[],h=>by have:=h.1;simp at this
 |a::l,v::vs,h=>by
  obtain⟨h1,h2⟩:=h.of_cons;exact iE (h1.wk n) (cr.wk n h2)
theorem bV.wkA{P:Program}{ρ:Nat->Int}{f:FuncId}{args:List AV}{r:AV}(n:Nat)(h:bV P ρ f (args.map (cP n)) r):bV P ρ f args r:=⟨h.1,fun G w vs h1 h2 h3=>h.2 G w vs h1 h2 (h3.wk n)⟩
def nW(e:En):En:=⟨e.f,e.ice,fun args=>e.sp (args.map (cP 60))⟩
theorem xQ{P:Program}{ρ:Nat->Int}{e:En}(h:zeO P ρ e):zeO P ρ (nW e):=fun args r hr=>(h _ r hr).wkA 60
end Go.Ab
namespace Go.Proofs.YtpbcimfiofmoeaaGreat
set_option maxRecDepth 20000
open Go Go.Ab
def fM(H:Hp)(v:AV)(l:List Int)(lo:Nat):Prop:=∃r imm,v=.sl r 0 l.length 1/\H.get r=some (.cells (l.map (.int .i64)) imm true)/\imm<=l.length/\lo<=r/\r<H.next
def ze0(H:Hp)(v:AV)(l:List Int)(lo:Nat):Prop:=(v=.nilS/\l=[])\/fM H v l lo
theorem fM.low{H H':Hp}{v:AV}{l:List Int}{lo:Nat}(h:fM H v l lo)(hn:H.next<=H'.next)(hg:∀k,lo<=k->k<H.next->H'.get k=H.get k):fM H' v l lo:=by
 obtain⟨r,imm,h1,h2,h3,h4,h5⟩:=h;exact⟨r,imm,h1,DS,h3,h4,ac⟩
theorem fM.lt{H:Hp}{v:AV}{l:List Int}{lo:Nat}(h:fM H v l lo){k:Nat}(hk:zd3 v k):lo<=k/\k<H.next:=by
 obtain⟨r,imm,rfl,_,_,h4,h5⟩:=h;obtain⟨n,e⟩:=hk;simp only[AV.sl.injEq]at e;rw[<-e.1];exact⟨h4,h5⟩
theorem ze0.lt{H:Hp}{v:AV}{l:List Int}{lo:Nat}(h:ze0 H v l lo){k:Nat}(hk:zd3 v k):lo<=k/\k<H.next:=by
 rcases h with⟨rfl,_⟩|h
 .obtain⟨n,e⟩:=hk;simp at e
 .exact h.lt hk
theorem fM.keep{H H':Hp}{v:AV}{l:List Int}{lo:Nat}(h:fM H v l lo)(hn:H.next<=H'.next)(hg:∀k,zd3 v k->H'.get k=H.get k):fM H' v l lo:=by
 obtain⟨r,imm,rfl,h2,h3,h4,h5⟩:=h;exact⟨r,imm,rfl,Ae,h3,h4,ac⟩
theorem ze0.keep{H H':Hp}{v:AV}{l:List Int}{lo:Nat}(h:ze0 H v l lo)(hn:H.next<=H'.next)(hg:∀k,zd3 v k->H'.get k=H.get k):ze0 H' v l lo:=h.imp id fun h=>h.keep hn hg
theorem Aq(l:List Int):(l.map (AV.int .i64)).all AV.one=true:=by simp[AV.one]
theorem Xy(m:List Int):(m.map fun s=>[AV.int .i64 s]).flatten=m.map (.int .i64):=by induction m with
 |nil=>rfl
 |cons a m ih=>simp[ih]
theorem Xz(H:Hp)(m:List Int):zfz H 1 (zeG m)=some (m.length,m.map (.int .i64)):=by
 have e:zfz H 1 (zeG m)=if ((m.map fun s=>[AV.int .i64 s]).all fun row=>row.length == 1)then some ((m.map fun s=>[AV.int .i64 s]).length,(m.map fun s=>[AV.int .i64 s]).flatten)else none:=rfl
 rw[e,aE aK,Xy,dy]
theorem sq{H:Hp}{r imm:Nat}{m:List Int}(h:H.get r=some (.cells (m.map (.int .i64)) imm true)):zfz H 1 (.sl r 0 m.length 1)=some (m.length,m.map (.int .i64)):=by
 have:=tI (H:=H) (r:=r) (o:=0) (n:=m.length) (z:=1) (s:=1) h aK;rw[this,gD,iq aK]
theorem D5{H:Hp}{v x:AV}{l m:List Int}{lo:Nat}(hv:ze0 H v l lo)(hlo:lo<=H.next)(hx:zfz H 1 x=some (m.length,m.map (.int .i64)))(hm:m≠[])(hb:l.length+m.length<2^40):
 ∃v' H',zeZ Tryz.prog false H 23 23 v x=some (v',H')/\fM H' v' (l++m) lo/\H'.next=H.next+1/\(∀k,k<lo->H'.get k=H.get k)/\ph v v' H H':=by
 obtain⟨n,hn⟩:∃n,m.length=n+1:=⟨m.length-1,Af⟩;have hmr:zfw=70368744177664:=rfl;rw[hn]at hx;rcases hv with⟨rfl,rfl⟩|⟨r,imm,rfl,h2,h3,h4,h5⟩
 .refine⟨.sl H.next 0 (n+1) 1,H.alloc (.cells (m.map (.int .i64)) 0 true),append_nil Tryz.underlying23 gN mM mN aC hx (Aq m) rfl jQ jQ,⟨H.next,0,qT,ev,ac,hlo,cL _⟩,rfl,fun k hk=>ez,fun k hk _=>ez,fun k hk=>.inr ?_⟩;obtain⟨n',e⟩:=hk;simp only[AV.sl.injEq]at e;omega
 .have htr:gW false H 1 (.sl r 0 l.length 1)=H:=by
   unfold gW;simp only[h2,bT,dy,lY];have:Nat.blt l.length l.length=false:=by
    cases hb:Nat.blt l.length l.length with
    |false=>rfl
    |true=>rw[iW]at hb;omega
   simp[this]
  refine⟨.sl H.next 0 (l.length+(n+1)) 1,(H.kill r).alloc (.cells (l.map (.int .i64)++m.map (.int .i64)) (imm-0) true),?_,⟨H.next,imm,qT,?_,cT,hlo,cL _⟩,rfl,fun k hk=>?_,fun k hk hno=>?_,fun k hk=>.inr ?_⟩
  .simp only[zeZ,Tryz.underlying23,gN,mM,mN,show zfT Tryz.prog 23=true by kernel_rfl,hx,Aq,htr,oR,bN,mF,ja,h2,dy,bT,lY,gD];rw[aE ⟨jQ,jQ,trivial,trivial,h3⟩];simp
  .show((H.kill r).alloc _).get (H.kill r).next=_
   rw[zd1,aE rfl];simp
  .rw[zd1,ah l8,zfU,ah ac]
  .rw[zd1,ah l8,zfU,ah (fun e=>hno ⟨_,lZ⟩)]
  .obtain⟨n',e⟩:=hk;simp only[AV.sl.injEq]at e;omega
theorem pi{H:Hp}{v:AV}{l:List Int}{lo r imm:Nat}(s:Int)(hv:ze0 H v l lo)(hlo:lo<=H.next)(hs:H.get r=some (.cells [.int .i64 s] imm true))(hb:l.length<2^39):
 ∃v' H',zeZ Tryz.prog false H 23 23 v (.sl r 0 1 1)=some (v',H')/\fM H' v' (l++[s]) lo/\H'.next=H.next+1/\(∀k,k<lo->H'.get k=H.get k)/\ph v v' H H':=
 D5 hv hlo (sq (m:=[s]) hs) aK cT
theorem XA{H:Hp}{v w:AV}{l m:List Int}{lo lo':Nat}(hv:fM H v l lo)(hlo:lo<=H.next)(hw:ze0 H w m lo')(hb:l.length+m.length<2^40):
 ∃v' H',zeZ Tryz.prog false H 23 23 v w=some (v',H')/\fM H' v' (l++m) lo/\H.next<=H'.next/\(∀k,k<lo->H'.get k=H.get k)/\ph v v' H H':=by
 by_cases hm:m=[]
 .subst hm;refine⟨v,H,?_,Ag,aM _,fun _ _=>rfl,fun _ _ _=>rfl,fun _ h=>.inl h⟩;obtain⟨r,imm,rfl,h2,_⟩:=hv;rcases hw with⟨rfl,_⟩|⟨r',imm',rfl,g2,_⟩
  .simp only[zeZ,Tryz.underlying23,gN,mM,mN,show zfT Tryz.prog 23=true by kernel_rfl,zfz]
  .have g3:=sq g2;simp only[fV]at g3;simp only[zeZ,Tryz.underlying23,gN,mM,mN,show zfT Tryz.prog 23=true by kernel_rfl,fV,g3]
 .rcases hw with⟨_,h⟩|⟨r',imm',rfl,g2,_⟩
  .exact(hm h).elim
  .obtain⟨v',H',h1,h2,h3,h4⟩:=D5 (.inr hv) hlo (sq g2) hm hb;exact⟨v',H',h1,h2,ac,h4⟩
theorem fM.len{H H':Hp}{v:AV}{l:List Int}{lo:Nat}(h:fM H v l lo):zeR Tryz.prog H' 23 v=some (.int .i64 l.length):=by
 obtain⟨r,imm,rfl,_⟩:=h;exact zgg Tryz.underlying23 _ _ _ _
theorem fM.at{H:Hp}{v:AV}{l:List Int}{lo:Nat}(h:fM H v l lo){i:Nat}(hi:i<l.length):
 ∃r,zeE Tryz.prog 23 v (.int .i64 (i:Int))=some (.ptr r i)/\zfC Tryz.prog H 3 (.ptr r i)=some (.int .i64 l[i]):=by
 obtain⟨r,imm,rfl,h2,_⟩:=h;refine⟨r,?_,?_⟩
 .rw[mL Tryz.underlying23 gN hi];simp
 .rw[r0 Tryz.underlying3 rfl h2,fF,br hi];rfl
theorem As(l:List Int):gY 1 l.length (l.map (.int .i64))=l.map fun s=>[AV.int .i64 s]:=by
 induction l with
 |nil=>rfl
 |cons a l ih=>simp[gY,ih]
theorem Jy(n:Nat):∀(l:List Int) (H:Hp),jY (eY (n+1)) (l.map (.int .i64)) H=some (l.map (.int .i64),H)
 |[],H=>rfl
 |a::l,H=>by
  have:=Jy n l H;have e:eY (n+1) (.int .i64 a) H=some (.int .i64 a,H):=rfl;simp only[eF,jY,e,this]
theorem fM.ice{H:Hp}{v:AV}{l:List Int}{lo:Nat}(h:fM H v l lo)(n:Nat):
 ∃H',eY (n+2) v H=some (zeG l,H')/\fM H' v l lo/\H'.next=H.next/\(∀k,k<lo->H'.get k=H.get k)/\∀k,¬zd3 v k->H'.get k=H.get k:=by
 obtain⟨r,imm,rfl,h2,h3,h4,h5⟩:=h;refine⟨H.set r (.cells (l.map (.int .i64)) (max imm l.length) true),?_,⟨r,max imm l.length,rfl,ft,ac,h4,h5⟩,rfl,fun k hk=>iA,fun k hk=>by rw[bz,ah (fun e=>hk ⟨_,lZ⟩)]⟩;have e:eY (n+2) (.sl r 0 l.length 1) H=match H.get r with
  |some (.cells cs imm tip)=>match Nat.ble (0+l.length*1) cs.length&&Nat.ble imm cs.length with
   |true=>match jY (eY (n+1)) ((cs.drop 0).take (l.length*1)) (H.set r (.cells cs (max imm (0+l.length*1)) tip))with
    |some (l',H)=>some (.lst (gY 1 l.length l'),H)
    |none=>none
   |false=>none
  |_=>none:=rfl
 rw[e,h2];simp only[dy,bT,lY,gD];have h6:Nat.ble l.length l.length=true:=Ah;have h7:Nat.ble imm l.length=true:=Ah;rw[h6,h7];simp only[xh];rw[iq aK,Jy];simp only[As]
def mQ(H:Hp)(v:AV)(l:List Int)(lo:Nat):Prop:=∃r,v=.sl r 0 l.length 1/\H.get r=some (.cells (l.map (.int .i64)) 0 true)/\lo<=r/\r<H.next
def gQ(H:Hp)(v:AV)(l:List Int)(lo:Nat):Prop:=(v=.nilS/\l=[])\/mQ H v l lo
theorem mQ.b{H:Hp}{v:AV}{l:List Int}{lo:Nat}(h:mQ H v l lo):fM H v l lo:=by
 obtain⟨r,h1,h2,h3,h4⟩:=h;exact⟨r,0,h1,h2,dE _,h3,h4⟩
theorem gQ.n{H:Hp}{v:AV}{l:List Int}{lo:Nat}(h:gQ H v l lo):ze0 H v l lo:=h.imp id fun h=>h.b
theorem mQ.keep{H H':Hp}{v:AV}{l:List Int}{lo:Nat}(h:mQ H v l lo)(hn:H.next<=H'.next)(hg:∀k,zd3 v k->H'.get k=H.get k):mQ H' v l lo:=by
 obtain⟨r,rfl,h2,h4,h5⟩:=h;exact⟨r,rfl,Ae,h4,ac⟩
theorem gQ.keep{H H':Hp}{v:AV}{l:List Int}{lo:Nat}(h:gQ H v l lo)(hn:H.next<=H'.next)(hg:∀k,zd3 v k->H'.get k=H.get k):gQ H' v l lo:=h.imp id fun h=>h.keep hn hg
theorem At{H:Hp}{v x:AV}{l m:List Int}{lo:Nat}(hv:gQ H v l lo)(hlo:lo<=H.next)(hx:zfz H 1 x=some (m.length,m.map (.int .i64)))(hm:m≠[])(hb:l.length+m.length<2^40):
 ∃v' H',zeZ Tryz.prog false H 23 23 v x=some (v',H')/\mQ H' v' (l++m) lo/\H'.next=H.next+1/\(∀k,k<lo->H'.get k=H.get k)/\ph v v' H H':=by
 obtain⟨n,hn⟩:∃n,m.length=n+1:=⟨m.length-1,Af⟩;have hmr:zfw=70368744177664:=rfl;rw[hn]at hx;rcases hv with⟨rfl,rfl⟩|⟨r,rfl,h2,h4,h5⟩
 .refine⟨.sl H.next 0 (n+1) 1,H.alloc (.cells (m.map (.int .i64)) 0 true),append_nil Tryz.underlying23 gN mM mN aC hx (Aq m) rfl jQ jQ,⟨H.next,qT,ev,hlo,cL _⟩,rfl,fun k hk=>ez,fun k hk _=>ez,fun k hk=>.inr ?_⟩;obtain⟨n',e⟩:=hk;simp only[AV.sl.injEq]at e;omega
 .have htr:gW false H 1 (.sl r 0 l.length 1)=H:=by
   unfold gW;simp only[h2,bT,dy,lY];have:Nat.blt l.length l.length=false:=by
    cases hb:Nat.blt l.length l.length with
    |false=>rfl
    |true=>rw[iW]at hb;omega
   simp[this]
  refine⟨.sl H.next 0 (l.length+(n+1)) 1,(H.kill r).alloc (.cells (l.map (.int .i64)++m.map (.int .i64)) (0-0) true),?_,⟨H.next,qT,?_,hlo,cL _⟩,rfl,fun k hk=>?_,fun k hk hno=>?_,fun k hk=>.inr ?_⟩
  .simp only[zeZ,Tryz.underlying23,gN,mM,mN,show zfT Tryz.prog 23=true by kernel_rfl,hx,Aq,htr,oR,bN,mF,ja,h2,dy,bT,lY,gD];rw[aE ⟨jQ,jQ,trivial,trivial,dE _⟩];simp
  .show((H.kill r).alloc _).get (H.kill r).next=_
   rw[zd1,aE rfl];simp
  .rw[zd1,ah l8,zfU,ah ac]
  .rw[zd1,ah l8,zfU,ah (fun e=>hno ⟨_,lZ⟩)]
  .obtain⟨n',e⟩:=hk;simp only[AV.sl.injEq]at e;omega
theorem XB{H:Hp}{v:AV}{l:List Int}{lo r imm:Nat}(s:Int)(hv:gQ H v l lo)(hlo:lo<=H.next)(hs:H.get r=some (.cells [.int .i64 s] imm true))(hb:l.length<2^39):
 ∃v' H',zeZ Tryz.prog false H 23 23 v (.sl r 0 1 1)=some (v',H')/\mQ H' v' (l++[s]) lo/\H'.next=H.next+1/\(∀k,k<lo->H'.get k=H.get k)/\ph v v' H H':=
 At hv hlo (sq (m:=[s]) hs) aK cT
theorem XC(n:Nat):lU [.int .i64 0] n=(List.replicate n (0:Int)).map (.int .i64):=by
 induction n with
 |zero=>rfl
 |succ n ih=>simp only[lU,ih];simp[List.replicate_succ]
theorem XD(n:Nat):lU [.bool false] n=(List.replicate n false).map .bool:=by
 induction n with
 |zero=>rfl
 |succ n ih=>simp only[lU,ih];simp[List.replicate_succ]
theorem Jz{H:Hp}(n c:Nat)(h:n<=c)(hc:c<2^40):zf9 Tryz.prog H 23 (.int .i64 n) (.int .i64 c)=some (.sl H.next 0 n 1,H.alloc (.cells ((List.replicate n (0:Int)).map (.int .i64)) 0 true)):=by
 have hm:zfw=70368744177664:=rfl;show zf9 Tryz.prog H 23 (.int .i64 (Int.ofNat n)) (.int .i64 (Int.ofNat c))=_;simp only[zf9,Tryz.underlying23,gN,mM,mN];rw[aE ⟨h,by rw[hm];omega,by rw[hm];omega,rfl⟩,XC]
theorem D6{H:Hp}(n:Nat)(hc:n<2^40):zf9 Tryz.prog H 84 (.int .i64 n) (.int .i64 n)=some (.sl H.next 0 n 1,H.alloc (.cells ((List.replicate n false).map .bool) 0 true)):=by
 have hm:zfw=70368744177664:=rfl;show zf9 Tryz.prog H 84 (.int .i64 (Int.ofNat n)) (.int .i64 (Int.ofNat n))=_;simp only[zf9,Tryz.underlying84,xC,It,Iu];rw[aE ⟨aM _,by rw[hm];omega,by rw[hm];omega,rfl⟩,XD]
theorem splice_one(cs:List AV){o:Nat}(ho:o<cs.length)(x:AV):splice cs o [x]=cs.set o x:=by
 rw[If,List.set_eq_take_append_cons_drop,aE ho];simp
theorem vE{H:Hp}{r o:Nat}{cs:List AV}(hg:H.get r=some (.cells cs 0 true))(ho:o<cs.length)(n:Int):j5 Tryz.prog H 3 (.ptr r o) (.int .i64 n)=some (H.set r (.cells (cs.set o (.int .i64 n)) 0 true)):=by
 rw[Dt,hg,gN,Ds,cells_int,splice_one cs ho,aE ⟨rfl,dE _,ho,rfl⟩]
theorem JA{H:Hp}{r o:Nat}{cs:List AV}(hg:H.get r=some (.cells cs 0 true))(ho:o<cs.length)(b:Bool):j5 Tryz.prog H 4 (.ptr r o) (.bool b)=some (H.set r (.cells (cs.set o (.bool b)) 0 true)):=by
 rw[Dt,hg,xC,Ds,Ig,splice_one cs ho,aE ⟨rfl,dE _,ho,rfl⟩]
def sr(l:List Int):AV:=if l=[]then .nilS else zeG l
def nX(H:Hp)(v:AV)(l:List Int)(lo:Nat):Prop:=(v=.nilS/\l=[])\/(l≠[]/\fM H v l lo)
theorem nX.n{H:Hp}{v:AV}{l:List Int}{lo:Nat}(h:nX H v l lo):ze0 H v l lo:=h.imp id fun h=>h.2
theorem nX.keep{H H':Hp}{v:AV}{l:List Int}{lo:Nat}(h:nX H v l lo)(hn:H.next<=H'.next)(hg:∀k,zd3 v k->H'.get k=H.get k):nX H' v l lo:=h.imp id fun h=>⟨h.1,h.2.keep hn hg⟩
theorem JB(H:Hp)(n:Nat):∀l:List Int,iceL (iceV H (n+1)) (l.map (.int .i64))=some (l.map (.int .i64))
 |[]=>rfl
 |a::l=>by
  have:=JB H n l;have e:iceV H (n+1) (.int .i64 a)=some (.int .i64 a):=rfl;simp only[eF,iceL,e,this]
theorem fM.iceV{H:Hp}{v:AV}{l:List Int}{lo:Nat}(h:fM H v l lo)(n:Nat):iceV H (n+2) v=some (zeG l):=by
 obtain⟨r,imm,rfl,h2,_⟩:=h;have e:Ab.iceV H (n+2) (.sl r 0 l.length 1)=match H.get r with
  |some (.cells cs _ _)=>match iceL (Ab.iceV H (n+1)) ((cs.drop 0).take (l.length*1))with
   |some l'=>if l'.length=l.length*1 then some (.lst (gY 1 l.length l'))else none
   |none=>none
  |_=>none:=rfl
 rw[e,h2];simp only[gD,lY];rw[iq aK,JB];simp only[dy,bN,As]
theorem nX.iceV{H:Hp}{v:AV}{l:List Int}{lo:Nat}(h:nX H v l lo)(n:Nat):iceV H (n+2) v=some (sr l):=by
 rcases h with⟨rfl,rfl⟩|⟨h0,h⟩
 .rfl
 .rw[h.iceV,sr,ah h0]
theorem D7(n:Nat)(l:List Int):cP (n+2) (sr l)=zeG l:=by
 unfold sr;split
 .rename_i h;subst h;rfl
 .show AV.lst ((l.map fun s=>[AV.int .i64 s]).map fun row=>row.map (cP (n+1)))=_;rw[u7];rfl
end Go.Proofs.YtpbcimfiofmoeaaGreat
namespace Go.Ab
set_option maxRecDepth 20000
open Go
instance:DecidableEq Nd:=fun x y=>decidable_of_iff (x.op=y.op/\x.imm=y.imm/\x.kids=y.kids) (by cases x;cases y;simp)
def bH(op:Int):Int×Bool:=
 if op=1\/op=2\/op=3\/op=26 then (0,true)
 else if op=20\/op=21\/op=24\/op=25 then (1,true)
 else if op=23\/op=27\/op=29 then (2,true)
 else if op=22\/op=28 then (3,true)
 else if op=30\/op=31 then (-1,true)
 else if 4<=op/\op<=19 then (2,true)
 else (0,false)
def hT(n:Int):Int:=(n-1).tdiv 2
def kR(l:List Nd)(k:Int):Int:=match l[k.toNat]? with
 |some n=>n.kids.length
 |none=>0
def ze3(l:List Nd)(n:Nd):Int:=
 if n.op=2 then 5 else if n.op=3 then 255 else if n.op=23\/n.op=28 then 3 else if n.op=30 then 7 else if n.op=31 then 15
 else if n.op=25 then hT (kR l (n.kids.headD 0))-1 else 0
def zez(l:List Nd)(n:Nd):Bool:=
 if n.op=1 then true
 else if n.op=27 then decide (1<=n.imm)&&decide (n.imm<=1000016)
 else decide (0<=n.imm)&&decide (n.imm<=ze3 l n)
def zeW(op:Int):List Int:=
 if op=22 then [1,1,1]else if op=23\/op=27\/op=29 then [2,1]else if op=28 then [2,1,1]else if op=24 then [2]else if op=25 then [3]else [1,1]
def zeH:List Int->List Int->Bool
 |[],_=>true
 |a::s,w=>decide (a=w.headD 0)&&zeH s w.tail
def jR(n:Nat):List Int:=((List.replicate n (1:Int)).set 0 2).set (hT n+1).toNat 2
def zem(op:Int)(s:List Int):Bool:=
 if (bH op).2=false then false
 else if 0<=(bH op).1/\(bH op).1≠s.length then false
 else if op=31 then decide (3<=s.length)&&decide (s.length%2=1)&&decide (hT s.length<=16)&&zeH s (jR s.length)
 else if op=30 then decide (1<=s.length)&&decide (s.length<=7)&&decide (s.headD 0=2)&&s.tail.all fun x=>decide (x=1)
 else if op=22/\s.getD 1 0=2 then decide (s.headD 0=1)&&decide (s.getD 2 0=2)
 else zeH s (zeW op)
def zfo(i:Nat)(known:List Int):List Int->Option (List Int)
 |[]=>some []
 |k::ks=>if k<0\/(i:Int)<=k\/known.getD k.toNat 0=0 then none else (zfo i known ks).map fun s=>known.getD k.toNat 0::s
def zeT(n:Nd)(s:List Int):Int:=
 if n.op=31 then 3
 else if n.op=26\/n.op=27\/n.op=28\/n.op=29\/n.op=30 then 2
 else if n.op=22 then s.getD 1 0
 else if n.op=3/\n.imm.tmod 16=0 then 2
 else if n.op=25/\n.imm=0 then 2
 else 1
def zfJ(l:List Nd)(i:Nat)(known:List Int):Int:=match l[i]? with
 |none=>0
 |some n=>match zfo i known n.kids with
  |none=>0
  |some s=>if zem n.op s&&zez l n then zeT n s else 0
def zew(l:List Nd):Nat->List Int
 |0=>[]
 |i+1=>zew l i++[zfJ l i (zew l i)]
def zeY(l:List Nd)(i:Int):Int:=if i<0\/(l.length:Int)<=i then 0 else (zew (l.take (i.toNat+1)) (i.toNat+1)).getD i.toNat 0
theorem zgC(l:List Nd):∀i,(zew l i).length=i
 |0=>rfl
 |i+1=>by rw[zew,eO,zgC l i];rfl
theorem xR(l:List Nd):∀{i j:Nat},j<i->(zew l i).getD j 0=zfJ l j (zew l j)
 |0,j,h=>by omega
 |i+1,j,h=>by
  rw[zew];by_cases e:j<i
  .rw[dM,kG (by rw[zgC];exact e),<-dM];exact xR l e
  .obtain rfl:j=i:=by omega
   rw[dM,mB qU,zgC,qJ];rfl
theorem ss{i:Nat}{known:List Int}:∀{ks s:List Int},zfo i known ks=some s->∀k∈ks,0<=k/\k<i/\known.getD k.toNat 0≠0
 |[],s,_,k,h=>by simp at h
 |a::ks,s,h,k,hk=>by
  rw[zfo]at h;split at h
  .cases h
  .rename_i c;obtain⟨t,ht,_⟩:=mD.1 h;rcases iu.1 hk with rfl|hk
   .omega
   .exact ss ht k hk
theorem su{i:Nat}{known:List Int}:∀{ks s:List Int},zfo i known ks=some s->s.length=ks.length
 |[],s,h=>by cases h;rfl
 |a::ks,s,h=>by
  rw[zfo]at h;split at h
  .cases h
  .obtain⟨t,ht,rfl⟩:=mD.1 h;rw[fj,fj,su ht]
theorem JC{l:List Nd}{i:Nat}{known:List Int}{n:Nd}(hn:l[i]?=some n)(h:zfJ l i known≠0):∃s,zfo i known n.kids=some s/\zem n.op s=true/\zez l n=true:=by
 unfold zfJ at h;rw[hn]at h;simp only at h;split at h
 .exact absurd rfl h
 .rename_i s hs;split at h
  .rename_i c;rw[cJ]at c;exact⟨s,hs,c.1,c.2⟩
  .exact absurd rfl h
theorem JD{l:List Nd}{m:Nat}{n:Nd}(h:n.op=25->∃k ks,n.kids=k::ks/\k.toNat<m):zez (l.take m) n=zez l n:=by
 have e:ze3 (l.take m) n=ze3 l n:=by
  unfold ze3;by_cases c:n.op=25
  .obtain⟨k,ks,h1,h2⟩:=h c;rw[c];simp only[h1,tX,kR,pM,h2,bN]
  .simp only[c,bU]
 unfold zez;rw[e]
theorem XE{l:List Nd}{i m:Nat}(hm:i<m)(known:List Int):zfJ (l.take m) i known=zfJ l i known:=by
 unfold zfJ;rw[pM,aE hm];cases hn:l[i]? with
 |none=>rfl
 |some n=>
  simp only;cases hk:zfo i known n.kids with
  |none=>rfl
  |some s=>
   simp only;by_cases c:zem n.op s=true
   .have e:zez (l.take m) n=zez l n:=JD fun h25=>by
     have hl:=su hk;have h1:s.length=1:=by
      have c2:=c;unfold zem at c2;rw[h25]at c2;have:bH 25=(1,true):=aY;rw[this]at c2;simp only at c2;split at c2
      .cases c2
      .split at c2
       .cases c2
       .omega
     cases hq:n.kids with
     |nil=>rw[hq,h1]at hl;simp at hl
     |cons k ks=>
      refine⟨k,ks,rfl,?_⟩;have:=ss hk k (by rw[hq];exact fm);omega
    rw[e]
   .have c':zem n.op s=false:=by simpa using c
    rw[c',nU,nU]
theorem D8{l:List Nd}{m:Nat}:∀{i:Nat},i<=m->zew (l.take m) i=zew l i
 |0,_=>rfl
 |i+1,h=>by rw[zew,zew,D8 (by omega:i<=m),XE ac]
theorem xS{l:List Nd}{i:Nat}(h:i<l.length):zeY l i=zfJ l i (zew l i):=by
 unfold zeY;rw[ah ac,gH,D8 (aM _),xR l (cL i)]
theorem t0{l:List Nd}{i j:Nat}(hj:j<i)(hi:i<=l.length):(zew l i).getD j 0=zeY l j:=by
 rw[xR l hj,xS ac]
theorem Au{l m:List Nd}{i:Nat}(h:i<l.length):zeY (l++m) i=zeY l i:=by
 unfold zeY;rw[ah cT,ah ac,gH,zd ac]
theorem D9{l:List Nd}{i:Nat}{n:Nd}(hn:l[i]?=some n)(h:zeY l i≠0):∀k∈n.kids,0<=k/\k<i/\zeY l k≠0:=by
 have hi:i<l.length:=by
  by_cases c:i<l.length
  .exact c
  .rw[iY ac]at hn;cases hn
 rw[xS hi]at h;obtain⟨s,hs,_⟩:=JC hn h;intro k hk;obtain⟨h1,h2,h3⟩:=ss hs k hk;refine⟨h1,h2,?_⟩;obtain⟨k,rfl⟩:=gG h1;rw[gH,t0 ac ac]at h3;exact h3
def lF(kids:List Int)(b:List Bool):List Bool:=kids.foldl (fun b k=>b.set k.toNat true) b
def xT(l:List Nd):Nat->List Bool->List Bool
 |0,b=>b
 |k+1,b=>xT l k (if b.getD k false=true then lF (match l[k]? with|some n=>n.kids|none=>[]) b else b)
def iT(l:List Nd)(i:Int):List Int:=
 if zeY l i=0 then []else
  let b:=xT l (i.toNat+1) ((List.replicate (i.toNat+1) false).set i.toNat true)
  ((List.range (i.toNat+1)).filter fun j=>b.getD j false).map fun(j:Nat)=>(j:Int)
theorem xU:∀(ks:List Int) (b:List Bool),(lF ks b).length=b.length
 |[],b=>rfl
 |k::ks,b=>by
  show(lF ks (b.set k.toNat true)).length=_;rw[xU ks,iS]
theorem JE(b:List Bool)(i j:Nat)(h:i<b.length):(b.set i true).getD j false=(decide (i=j)||b.getD j false):=by
 rw[dM,zq,dM];by_cases c:i=j
 .subst c;simp[h]
 .simp[c]
theorem Ea:∀(ks:List Int) (b:List Bool) (j:Nat),(∀k∈ks,k.toNat<b.length)->(lF ks b).getD j false=(b.getD j false||ks.any fun k=>decide (k.toNat=j))
 |[],b,j,_=>by simp[lF]
 |k::ks,b,j,h=>by
  show(lF ks (b.set k.toNat true)).getD j false=_;rw[Ea ks _ j (fun q hq=>by rw[iS];exact h q (gF _ hq)),JE _ _ _ (h k fm),qV,DW,Bool.or_comm (decide _),DW,Bool.or_comm (ks.any _)]
structure MarkOk (l:List Nd) (i k:Nat) (b:List Bool):Prop where
 len:b.length=i+1
 top:b.getD i false=true
 wf:∀j,b.getD j false=true->j<=i/\zeY l j≠0
 cl:∀j,k<=j->b.getD j false=true->∀n,l[j]?=some n->∀c∈n.kids,b.getD c.toNat false=true
theorem MarkOk.step{l:List Nd}{i k:Nat}{b:List Bool}(h:MarkOk l i (k+1) b)(hk:k<=i):MarkOk l i k (if b.getD k false=true then lF (match l[k]? with|some n=>n.kids|none=>[]) b else b):=by
 by_cases c:b.getD k false=true
 .rw[aE c];obtain⟨_,hs⟩:=h.wf k c;cases hn:l[k]? with
  |none=>
   refine⟨h.len,h.top,h.wf,fun j hj hb n e=>?_⟩;by_cases ej:j=k
   .subst ej;rw[hn]at e;cases e
   .exact h.cl j ac hb n e
  |some n=>
   have hc:=D9 hn hs;have hlt:∀q∈n.kids,q.toNat<b.length:=fun q hq=>by have:=hc q hq;rw[h.len];omega
   simp only;have hg:∀j,(lF n.kids b).getD j false=(b.getD j false||n.kids.any fun q=>decide (q.toNat=j)):=fun j=>Ea n.kids b j hlt;refine⟨by rw[xU,h.len],by rw[hg,h.top];rfl,fun j hj=>?_,fun j hj hb m e q hq=>?_⟩
   .rw[hg,pT,Ak]at hj;rcases hj with hj|⟨q,hq,e⟩
    .exact h.wf j hj
    .obtain⟨h1,h2,h3⟩:=hc q hq;have e:=mO e;have:q=(j:Int):=ac;rw[<-this];exact⟨ac,h3⟩
   .rw[hg,pT]at hb⊢;have hbj:b.getD j false=true:=by
     rcases hb with hb|hb
     .exact hb
     .obtain⟨q,hq,e⟩:=Ak.1 hb;have:=hc q hq;have e:=mO e;omega
    by_cases ej:j=k
    .subst ej;rw[hn]at e;cases e
     right
     exact Ak.2 ⟨q,hq,aK⟩
    .left;exact h.cl j ac hbj m e q hq
 .rw[ah c];refine⟨h.len,h.top,h.wf,fun j hj hb=>?_⟩;by_cases ej:j=k
  .subst ej;exact absurd hb c
  .exact h.cl j ac hb
theorem JF{l:List Nd}{i:Nat}:∀(k:Nat) (b:List Bool),k<=i+1->MarkOk l i k b->MarkOk l i 0 (xT l k b)
 |0,b,_,h=>h
 |k+1,b,hk,h=>JF k _ ac (h.step ac)
theorem JG{l:List Nd}{i:Nat}(h:zeY l i≠0):MarkOk l i (i+1) ((List.replicate (i+1) false).set i true):=by
 have hg:∀j,((List.replicate (i+1) false).set i true).getD j false=decide (i=j):=fun j=>by
  rw[JE _ _ _ aK,dM,xH];by_cases c:j<i+1
  .simp[c]
  .simp[c]
 refine⟨aK,by rw[hg];simp,fun j hj=>?_,fun j hj hb=>?_⟩
 .rw[hg]at hj;have:=mO hj;subst this;exact⟨aM _,h⟩
 .rw[hg]at hb;have:=mO hb;omega
def iU(l:List Nd)(i:Nat):List Bool:=xT l (i+1) ((List.replicate (i+1) false).set i true)
theorem JH{l:List Nd}{i:Nat}(h:zeY l i≠0):MarkOk l i 0 (iU l i):=JF (i+1) _ (aM _) (JG h)
theorem Av(l:List Nd)(i:Nat):iT l i=if zeY l i=0 then []else ((List.range (i+1)).filter fun j=>(iU l i).getD j false).map fun(j:Nat)=>(j:Int):=by
 unfold iT iU;rw[gH]
theorem XF{l:List Nd}{i:Nat}{x:Int}:x∈iT l i↔zeY l i≠0/\∃j:Nat,x=j/\(iU l i).getD j false=true:=by
 rw[Av];by_cases h:zeY l i=0
 .simp[h]
 .rw[ah h,l0];constructor
  .rintro⟨j,hj,rfl⟩;rw[rX]at hj;exact⟨h,j,rfl,hj.2⟩
  .rintro⟨_,j,rfl,hj⟩;exact⟨j,rX.2 ⟨nK.2 (by have:=(JH h).wf j hj;omega),hj⟩,rfl⟩
def j6(op:Int):Int:=if op=2 then 5 else if op=3 then 255 else if op=23\/op=28 then 3 else if op=27 then 1000016 else if op=30 then 7 else if op=31 then 15 else if op=25 then 15 else -1
def ze7(op n:Int):Bool:=
 if op=1 then true
 else if j6 op<0 then decide (n=0)
 else decide (0<=n)&&decide (n<=j6 op)&&(!decide (op=27)||decide (0<n))
def zeF(k:List Int):Bool:=k.all fun x=>decide (x=1)
def zeC(b:Bool)(n:Int):Int:=if b then n else 0
def zey(l:List Nd)(n:Nd)(k:List Int):Int:=
 if (bH n.op).2=false then 0
 else if 0<=(bH n.op).1/\(n.kids.length:Int)≠(bH n.op).1 then 0
 else if ze7 n.op n.imm=false then 0
 else if n.op=3 then (if n.imm.tmod 16=0 then 2 else 1)
 else if n.op=26 then 2
 else if n.op=22 then (if k.headD 0≠1\/k.getD 1 0≠k.getD 2 0\/k.getD 1 0=3 then 0 else k.getD 1 0)
 else if n.op=23 then zeC (decide (k.headD 0=2)&&decide (k.getD 1 0=1)) 1
 else if n.op=24 then zeC (decide (k.headD 0=2)) 1
 else if n.op=25 then (if k.headD 0≠3\/(kR l (n.kids.headD 0)).tdiv 2<=n.imm then 0 else zeC (decide (n.imm=0)) 1+1)
 else if n.op=27\/n.op=29 then zeC (decide (k.headD 0=2)&&decide (k.getD 1 0=1)) 2
 else if n.op=28 then zeC (decide (k.headD 0=2)&&decide (k.getD 1 0=1)&&decide (k.getD 2 0=1)) 2
 else if n.op=30 then zeC (decide (1<=k.length)&&decide (k.length<=7)&&decide (k.headD 0=2)&&zeF (k.drop 1)) 2
 else if n.op=31 then zeC (decide (k.length%2=1)&&decide (1<=k.length/2)&&decide (k.length/2<=16)&&decide (k.headD 0=2)&&zeF ((k.drop 1).take (k.length/2))&&decide (k.getD (k.length/2+1) 0=2)&&zeF (k.drop (k.length/2+2))) 3
 else zeC (zeF k) 1
def Eb(l:List Nd)(i:Nat)(known:List Int):Int:=match l[i]? with
 |none=>0
 |some n=>match zfo i known n.kids with
  |none=>0
  |some s=>zey l n s
theorem Ec:∀(s w:List Int),s.length<=w.length->(∀x∈w,x=1)->zeH s w=zeF s
 |[],w,_,_=>by simp[zeH,zeF]
 |a::s,[],h,_=>by simp at h
 |a::s,b::w,h,hw=>by
  have hb:=hw b fm;subst hb;rw[zeH,tX,List.tail_cons,Ec s w jM (fun x hx=>hw x (gF _ hx))];simp[zeF]
theorem Aw(a b:Int)(s w:List Int):zeH (a::s) (b::w)=(decide (a=b)&&zeH s w):=rfl
theorem XG(n m:Nat)(h:m<n):(List.replicate n (1:Int)).set m 2=List.replicate m 1++2::List.replicate (n-m-1) 1:=by
 apply List.ext_getElem?;intro i;rw[zq,List.getElem?_append];simp only[qX];by_cases c:i<m
 .rw[ah ac,aE c,xH,xH,aE ac,aE c]
 .rw[ah c];by_cases e:m=i
  .subst e;simp[h]
  .rw[ah e];obtain⟨j,rfl⟩:∃j,i=m+1+j:=⟨i-m-1,ac⟩;rw[show m+1+j-m=j+1 by omega,sc,xH,xH];by_cases g:m+1+j<n
   .rw[aE g,aE ac]
   .rw[ah g,ah ac]
theorem JI:∀(a s w v:List Int),a.length=w.length->zeH (a++s) (w++v)=(zeH a w&&zeH s v)
 |[],s,[],v,_=>by simp[zeH]
 |x::a,s,y::w,v,h=>by
  rw[r8,r8,Aw,Aw,JI a s w v jM,vB]
 |[],_,_::_,_,h=>by simp at h
 |_::_,_,[],_,h=>pS
theorem xV(n:Nat)(h:1<=n):hT n=((n-1)/2:Nat):=by
 unfold hT;rw[show(n:Int)-1=((n-1:Nat):Int) by omega];rfl
theorem JJ(s:List Int)(h:3<=s.length)(ho:s.length%2=1):zeH s (jR s.length)=(decide (s.headD 0=2)&&zeF ((s.drop 1).take (s.length/2))&&decide (s.getD (s.length/2+1) 0=2)&&zeF (s.drop (s.length/2+2))):=by
 obtain⟨m,hm⟩:∃m,s.length=2*m+1:=⟨s.length/2,ac⟩;have hm1:1<=m:=ac;have e1:s.length/2=m:=ac;have e2:(hT s.length+1).toNat=m+1:=DT;have hl:jR s.length=2::(List.replicate m 1++2::List.replicate (m-1) 1):=by
  unfold jR;rw[e2,hm];have e3:List.replicate (2*m+1) (1:Int)=1::List.replicate (2*m) 1:=rfl;rw[e3,DX,List.set_cons_succ,XG _ _ ac]
  congr 4;omega
 rw[hl,e1]
 match s,hm with
 |a::t,hm=>
  have ht:t.length=2*m:=by simpa using hm
  rw[Aw,tX,DU,gD];have hd:t=t.take m++t.drop m:=(zn m t).symm;have htk:(t.take m).length=m:=pQ
  conv=>lhs;rw[hd]
  rw[JI _ _ _ _ (by rw[htk];simp),Ec (t.take m) _ (by rw[htk];simp) (fun x hx=>Al hx)];have hg:(a::t).getD (m+1) 0=t.getD m 0:=rfl;have hdr:(a::t).drop (m+2)=t.drop (m+1):=rfl;rw[hg,hdr];have hdd:t.drop m=t.getD m 0::t.drop (m+1):=by
   rw[jl ac,dM,br ac];rfl
  rw[hdd,Aw,Ec (t.drop (m+1)) _ cT (fun x hx=>Al hx),vB,vB]
theorem sw{α:Type}{s:List α}(h:s.length=0):s=[]:=xI h
theorem nY{α:Type}{s:List α}(h:s.length=1):∃a,s=[a]:=by
 match s,h with
 |[a],_=>exact⟨a,rfl⟩
theorem pj{α:Type}{s:List α}(h:s.length=2):∃a b,s=[a,b]:=by
 match s,h with
 |[a,b],_=>exact⟨a,b,rfl⟩
theorem rb{α:Type}{s:List α}(h:s.length=3):∃a b c,s=[a,b,c]:=by
 match s,h with
 |[a,b,c],_=>exact⟨a,b,c,rfl⟩
theorem XH{l:List Nd}{n:Nd}{s:List Int}(hl:s.length=n.kids.length)(hk:∀x∈s,1<=x/\x<=3)(h3:s.headD 0=3->n.op=25->∃m:Nat,kR l (n.kids.headD 0)=2*(m:Int)+1/\1<=m/\m<=16):
 (if zem n.op s&&zez l n then zeT n s else 0)=zey l n s:=by
 obtain⟨op,imm,kids⟩:=n;simp only at hl h3;have fix:∀a:Int,0<=a->bH op=(a,true)->(s.length:Int)≠a->(if zem op s&&zez l ⟨op,imm,kids⟩then zeT ⟨op,imm,kids⟩ s else 0)=zey l ⟨op,imm,kids⟩ s:=fun a h0 ha hne=>by
  have e1:zem op s=false:=by
   unfold zem;rw[ha];simp only[oL,bU];rw[aE ⟨h0,Ne.symm hne⟩]
  have e2:zey l ⟨op,imm,kids⟩ s=0:=by
   unfold zey;simp only[ha,oL,bU];rw[aE ⟨h0,by rw[<-hl];exact hne⟩]
  rw[e1,e2];rfl
 have cases:op<1\/31<op\/op=1\/op=2\/op=3\/(4<=op/\op<=19)\/op=20\/op=21\/op=22\/op=23\/op=24\/op=25\/op=26\/op=27\/op=28\/op=29\/op=30\/op=31:=ac;rcases cases with h|h|rfl|rfl|rfl|h|rfl|rfl|rfl|rfl|rfl|rfl|rfl|rfl|rfl|rfl|rfl|rfl
 .have ha:bH op=(0,false):=by
   unfold bH;repeat rw[ah ac]
  simp[zem,zey,ha]
 .have ha:bH op=(0,false):=by
   unfold bH;repeat rw[ah ac]
  simp[zem,zey,ha]
 -- 1
 .by_cases c:(s.length:Int)=0
  .obtain rfl:=sw (s:=s) ac;have:kids=[]:=sw lj;subst this;simp[zem,zey,bH,zez,ze7,zeT,zeH,zeW,zeF,zeC]
  .exact fix 0 ac aY c
 -- 2
 .by_cases c:(s.length:Int)=0
  .obtain rfl:=sw (s:=s) ac;have:kids=[]:=sw lj;subst this;by_cases b:0<=imm/\imm<=5
   .have b1:=b.1;have b2:=b.2;simp[zem,zey,bH,zez,ze7,ze3,j6,zeT,zeH,zeW,zeF,zeC,b1,b2]
   .simp[zem,zey,bH,zez,ze7,ze3,j6,zeT,zeH,zeW,zeF,zeC];omega
  .exact fix 0 ac aY c
 -- 3
 .by_cases c:(s.length:Int)=0
  .obtain rfl:=sw (s:=s) ac;have:kids=[]:=sw lj;subst this;by_cases b:0<=imm/\imm<=255
   .have b1:=b.1;have b2:=b.2;by_cases e:imm.tmod 16=0<;>simp[zem,zey,bH,zez,ze7,ze3,j6,zeT,zeH,zeW,zeF,zeC,b1,b2,e]
   .simp[zem,zey,bH,zez,ze7,ze3,j6,zeT,zeH,zeW,zeF,zeC];omega
  .exact fix 0 ac aY c
 -- 4 to 19
 .obtain⟨g1,g2⟩:=h;have q:∀k:Int,(k<4\/19<k)->¬op=k:=fun k hk e=>ac;have ha:bH op=(2,true):=by
   unfold bH;rw[ah ac,ah ac,ah ac,ah ac,ah ac,aE ⟨g1,g2⟩]
  have t:∀k:Int,(k<4\/19<k)->decide (op=k)=false:=fun k hk=>pd (q k hk);by_cases c:(s.length:Int)=2
  .obtain⟨a,b,rfl⟩:=pj (s:=s) ac;obtain⟨x,y,rfl⟩:=pj (s:=kids) lj;have m0:j6 op=-1:=by unfold j6;rw[ah (q 2 ac),ah (q 3 ac),ah ac,ah (q 27 ac),ah (q 30 ac),ah (q 31 ac),ah (q 25 ac)]
   have zeX:ze3 l ⟨op,imm,[x,y]⟩=0:=by unfold ze3;simp only[];rw[ah (q 2 ac),ah (q 3 ac),ah ac,ah (q 30 ac),ah (q 31 ac),ah (q 25 ac)]
   have m2:zeW op=[1,1]:=by unfold zeW;rw[ah (q 22 ac),ah ac,ah (q 28 ac),ah (q 24 ac),ah (q 25 ac)]
   have m3:zeT ⟨op,imm,[x,y]⟩ [a,b]=1:=by unfold zeT;simp only[];rw[ah (q 31 ac),ah ac,ah (q 22 ac),ah (fun e=>q 3 ac e.1),ah (fun e=>q 25 ac e.1)]
   have e1:zem op [a,b]=(decide (a=1)&&decide (b=1)):=by
    unfold zem;rw[ha];simp only[oL,bU];rw[ah aK,ah (q 31 ac),ah (q 30 ac),ah (fun e=>q 22 ac e.1),m2];simp[zeH]
   have e2:zez l ⟨op,imm,[x,y]⟩=decide (imm=0):=by
    unfold zez;simp only[];rw[ah (q 1 ac),ah (q 27 ac),zeX];by_cases z:imm=0
    .simp[z]
    .simp[z];omega
   have e3:ze7 op imm=decide (imm=0):=by
    unfold ze7;rw[ah (q 1 ac),m0];rfl
   have e4:zey l ⟨op,imm,[x,y]⟩ [a,b]=if imm=0 then zeC (zeF [a,b]) 1 else 0:=by
    unfold zey;simp only[ha,e3,oL,bU];rw[ah aK];by_cases z:imm=0
    .rw[ah (by simp[z]),ah (q 3 ac),ah (q 26 ac),ah (q 22 ac),ah (q 23 ac),ah (q 24 ac),ah (q 25 ac),ah ac,ah (q 28 ac),ah (q 30 ac),ah (q 31 ac),aE z]
    .rw[aE (by simp[z]),ah z]
   rw[e1,e2,e4,m3];by_cases z:imm=0
   .simp[z,zeC,zeF]
   .simp[z]
  .exact fix 2 ac ha c
 -- 20
 .by_cases c:(s.length:Int)=1
  .obtain⟨a,rfl⟩:=nY (s:=s) ac;obtain⟨x,rfl⟩:=nY (s:=kids) lj;have ka:=hk a aK;by_cases b:imm=0
   .subst b;simp[zem,zey,bH,zez,ze7,ze3,j6,zeT,zeH,zeW,zeF,zeC]
   .have b2:¬(0<=imm/\imm<=0):=by omega
    simp[zem,zey,bH,zez,ze7,ze3,j6,zeT,zeH,zeW,zeF,zeC,b];omega
  .exact fix 1 ac aY c
 -- 21
 .by_cases c:(s.length:Int)=1
  .obtain⟨a,rfl⟩:=nY (s:=s) ac;obtain⟨x,rfl⟩:=nY (s:=kids) lj;have ka:=hk a aK;by_cases b:imm=0
   .subst b;simp[zem,zey,bH,zez,ze7,ze3,j6,zeT,zeH,zeW,zeF,zeC]
   .have b2:¬(0<=imm/\imm<=0):=by omega
    simp[zem,zey,bH,zez,ze7,ze3,j6,zeT,zeH,zeW,zeF,zeC,b];omega
  .exact fix 1 ac aY c
 -- 22
 .by_cases c:(s.length:Int)=3
  .obtain⟨a,b,c1,rfl⟩:=rb (s:=s) ac;obtain⟨x,y,z,rfl⟩:=rb (s:=kids) lj;have ka:=hk a aK;have kb:=hk b aK;have kc:=hk c1 aK;by_cases z:imm=0
   .subst z;have ka':a=1\/a=2\/a=3:=ac;have kb':b=1\/b=2\/b=3:=ac;have kc':c1=1\/c1=2\/c1=3:=ac;rcases ka' with rfl|rfl|rfl<;>rcases kb' with rfl|rfl|rfl<;>rcases kc' with rfl|rfl|rfl<;>simp[zem,zey,bH,zez,ze7,ze3,j6,zeT,zeH,zeW,zeF,zeC]
   .simp[zem,zey,bH,zez,ze7,ze3,j6,zeT,zeH,zeW,zeF,zeC,z];omega
  .exact fix 3 ac aY c
 -- 23
 .by_cases c:(s.length:Int)=2
  .obtain⟨a,b,rfl⟩:=pj (s:=s) ac;obtain⟨x,y,rfl⟩:=pj (s:=kids) lj;have ka:=hk a aK;have kb:=hk b aK;by_cases z:0<=imm/\imm<=3
   .have z1:=z.1;have z2:=z.2;simp[zem,zey,bH,zez,ze7,ze3,j6,zeT,zeH,zeW,zeF,zeC,z1,z2]
   .have z':¬(0<=imm)\/¬(imm<=3):=by omega
    rcases z' with z'|z' <;>simp[zem,zey,bH,zez,ze7,ze3,j6,zeT,zeH,zeW,zeF,zeC,z']
  .exact fix 2 ac aY c
 -- 24
 .by_cases c:(s.length:Int)=1
  .obtain⟨a,rfl⟩:=nY (s:=s) ac;obtain⟨x,rfl⟩:=nY (s:=kids) lj;have ka:=hk a aK;by_cases b:imm=0
   .subst b;simp[zem,zey,bH,zez,ze7,ze3,j6,zeT,zeH,zeW,zeF,zeC]
   .have b2:¬(0<=imm/\imm<=0):=by omega
    simp[zem,zey,bH,zez,ze7,ze3,j6,zeT,zeH,zeW,zeF,zeC,b];omega
  .exact fix 1 ac aY c
 -- 25
 .by_cases c:(s.length:Int)=1
  .obtain⟨a,rfl⟩:=nY (s:=s) ac;obtain⟨x,rfl⟩:=nY (s:=kids) lj;have ka:=hk a aK;by_cases e:a=3
   .subst e;obtain⟨m,hm,zeX,m2⟩:=h3 rfl rfl;simp only[tX]at hm;have l1:hT (kR l x)=m:=by rw[hm];unfold hT;rw[show(2*(m:Int)+1-1)=((2*m:Nat):Int) by omega];show(((2*m)/2:Nat):Int)=m;omega
    have l2:(kR l x).tdiv 2=m:=by rw[hm];show(((2*m+1)/2:Nat):Int)=m;omega
    by_cases z:0<=imm/\imm<=(m:Int)-1
    .have z1:=z.1;have z2:=z.2;have z3:imm<=15:=ac;have z4:¬(m:Int)<=imm:=ac;by_cases y:imm=0
     .subst y;simp[zem,zey,bH,zez,ze7,ze3,j6,zeT,zeH,zeW,zeF,zeC,l1,l2,z2,z4];rw[aE ac,ah ac]
     .simp[zem,zey,bH,zez,ze7,ze3,j6,zeT,zeH,zeW,zeF,zeC,l1,l2,z1,z2,z3,z4,y]
    .by_cases z1:0<=imm
     .have z2:¬imm<=(m:Int)-1:=by omega
      have z4:(m:Int)<=imm:=ac;simp[zem,zey,bH,zez,ze7,ze3,j6,zeT,zeH,zeW,zeF,zeC,l1,l2,z1,z2,z4]
     .simp[zem,zey,bH,zez,ze7,ze3,j6,zeT,zeH,zeW,zeF,zeC,l1,l2,z1]
   .simp[zem,zey,bH,zez,ze7,ze3,j6,zeT,zeH,zeW,zeF,zeC,e]
  .exact fix 1 ac aY c
 -- 26
 .by_cases c:(s.length:Int)=0
  .obtain rfl:=sw (s:=s) ac;have:kids=[]:=sw lj;subst this;by_cases b:imm=0
   .subst b;simp[zem,zey,bH,zez,ze7,ze3,j6,zeT,zeH,zeW,zeF,zeC]
   .have b2:¬(0<=imm/\imm<=0):=by omega
    simp[zem,zey,bH,zez,ze7,ze3,j6,zeT,zeH,zeW,zeF,zeC,b];omega
  .exact fix 0 ac aY c
 -- 27
 .by_cases c:(s.length:Int)=2
  .obtain⟨a,b,rfl⟩:=pj (s:=s) ac;obtain⟨x,y,rfl⟩:=pj (s:=kids) lj;have ka:=hk a aK;have kb:=hk b aK;by_cases z:1<=imm/\imm<=1000016
   .have z1:=z.1;have z2:=z.2;have z3:0<=imm:=ac;have z4:0<imm:=ac;simp[zem,zey,bH,zez,ze7,ze3,j6,zeT,zeH,zeW,zeF,zeC,z1,z2,z3,z4]
   .have z':¬(1<=imm)\/¬(imm<=1000016):=by omega
    rcases z' with z'|z'
    .have z4:¬0<imm:=by omega
     simp[zem,zey,bH,zez,ze7,ze3,j6,zeT,zeH,zeW,zeF,zeC,z',z4]
    .simp[zem,zey,bH,zez,ze7,ze3,j6,zeT,zeH,zeW,zeF,zeC,z']
  .exact fix 2 ac aY c
 -- 28
 .by_cases c:(s.length:Int)=3
  .obtain⟨a,b,c1,rfl⟩:=rb (s:=s) ac;obtain⟨x,y,z,rfl⟩:=rb (s:=kids) lj;have ka:=hk a aK;have kb:=hk b aK;have kc:=hk c1 aK;by_cases z:0<=imm/\imm<=3
   .have z1:=z.1;have z2:=z.2;simp[zem,zey,bH,zez,ze7,ze3,j6,zeT,zeH,zeW,zeF,zeC,z1,z2,vB]
   .have z':¬(0<=imm)\/¬(imm<=3):=by omega
    rcases z' with z'|z' <;>simp[zem,zey,bH,zez,ze7,ze3,j6,zeT,zeH,zeW,zeF,zeC,z']
  .exact fix 3 ac aY c
 -- 29
 .by_cases c:(s.length:Int)=2
  .obtain⟨a,b,rfl⟩:=pj (s:=s) ac;obtain⟨x,y,rfl⟩:=pj (s:=kids) lj;have ka:=hk a aK;have kb:=hk b aK;by_cases b:imm=0
   .subst b;simp[zem,zey,bH,zez,ze7,ze3,j6,zeT,zeH,zeW,zeF,zeC]
   .have b2:¬(0<=imm/\imm<=0):=by omega
    simp[zem,zey,bH,zez,ze7,ze3,j6,zeT,zeH,zeW,zeF,zeC,b];omega
  .exact fix 2 ac aY c
 -- 30
 .have e1:zem 30 s=(decide (1<=s.length)&&decide (s.length<=7)&&decide (s.headD 0=2)&&zeF (s.drop 1)):=by
   simp[zem,bH,zeF,List.drop_one]
  have e2:zey l ⟨30,imm,kids⟩ s=if ze7 30 imm=false then 0 else zeC (decide (1<=s.length)&&decide (s.length<=7)&&decide (s.headD 0=2)&&zeF (s.drop 1)) 2:=by
   simp[zey,bH]
  have e3:zez l ⟨30,imm,kids⟩=ze7 30 imm:=by simp[zez,ze7,ze3,j6]
  rw[e1,e2,e3];generalize (decide (1<=s.length)&&decide (s.length<=7)&&decide (s.headD 0=2)&&zeF (s.drop 1))=v;cases ze7 30 imm<;>cases v<;>simp[zeT,zeC]
 -- 31
 .have e3:zez l ⟨31,imm,kids⟩=ze7 31 imm:=by simp[zez,ze7,ze3,j6]
  have e2:zey l ⟨31,imm,kids⟩ s=if ze7 31 imm=false then 0 else zeC (decide (s.length%2=1)&&decide (1<=s.length/2)&&decide (s.length/2<=16)&&decide (s.headD 0=2)&&zeF ((s.drop 1).take (s.length/2))&&decide (s.getD (s.length/2+1) 0=2)&&zeF (s.drop (s.length/2+2))) 3:=by
   simp[zey,bH]
  have e1:zem 31 s=(decide (s.length%2=1)&&decide (1<=s.length/2)&&decide (s.length/2<=16)&&decide (s.headD 0=2)&&zeF ((s.drop 1).take (s.length/2))&&decide (s.getD (s.length/2+1) 0=2)&&zeF (s.drop (s.length/2+2))):=by
   have e:zem 31 s=(decide (3<=s.length)&&decide (s.length%2=1)&&decide (hT s.length<=16)&&zeH s (jR s.length)):=by simp[zem,bH]
   rw[e];by_cases p:3<=s.length
   .by_cases o:s.length%2=1
    .rw[JJ s p o,xV _ ac];have t1:1<=s.length/2:=ac;have t2:decide ((((s.length-1)/2:Nat):Int)<=16)=decide (s.length/2<=16):=by
      rw[xJ];omega
     rw[t2];simp only[qc p,qc o,qc t1,r6,vB]
    .simp only[pd o,DZ]
   .have p2:decide (3<=s.length)=false:=pd p;rw[p2];simp only[nU]
    symm
    by_cases o:s.length%2=1
    .have:¬1<=s.length/2:=by omega
     simp only[pd this,DZ]
    .simp only[pd o,nU]
  rw[e1,e2,e3];generalize (decide (s.length%2=1)&&decide (1<=s.length/2)&&decide (s.length/2<=16)&&decide (s.headD 0=2)&&zeF ((s.drop 1).take (s.length/2))&&decide (s.getD (s.length/2+1) 0=2)&&zeF (s.drop (s.length/2+2)))=v;cases ze7 31 imm<;>cases v<;>simp[zeT,zeC]
theorem XI(n:Nd){s:List Int}(hv:zem n.op s=true)(hk:∀x∈s,1<=x/\x<=3):1<=zeT n s/\zeT n s<=3:=by
 unfold zeT;by_cases c22:n.op=22
 .rw[ah ac,ah ac,aE c22];have h3:s.length=3:=by
   unfold zem at hv;rw[c22]at hv;have:bH 22=(3,true):=aY;rw[this]at hv;simp only[oL,bU]at hv;by_cases e:(0:Int)<=3/\(3:Int)≠s.length
   .rw[aE e]at hv;cases hv
   .omega
  obtain⟨a,b,c,rfl⟩:=rb h3;exact hk b aK
 .split
  .omega
  .split
   .omega
   .split
    .omega
    .split
     .omega
     .omega
theorem Ax{i:Nat}{known:List Int}(hr:∀j,known.getD j 0=0\/1<=known.getD j 0/\known.getD j 0<=3):∀{ks s:List Int},zfo i known ks=some s->∀x∈s,1<=x/\x<=3
 |[],s,h,x,hx=>by cases h;simp at hx
 |a::ks,s,h,x,hx=>by
  rw[zfo]at h;split at h
  .cases h
  .rename_i c;obtain⟨t,ht,rfl⟩:=mD.1 h;rcases iu.1 hx with rfl|hx
   .rcases hr a.toNat with e|e
    .omega
    .exact e
   .exact Ax hr ht x hx
theorem XJ{l:List Nd}{i:Nat}{known:List Int}(hr:∀j,known.getD j 0=0\/1<=known.getD j 0/\known.getD j 0<=3):zfJ l i known=0\/1<=zfJ l i known/\zfJ l i known<=3:=by
 unfold zfJ;split
 .left;rfl
 .split
  .left;rfl
  .rename_i n hn s hs;split
   .rename_i c;rw[cJ]at c
    right;exact XI _ c.1 (Ax hr hs)
   .left;rfl
theorem Ed(l:List Nd):∀(i j:Nat),(zew l i).getD j 0=0\/1<=(zew l i).getD j 0/\(zew l i).getD j 0<=3
 |0,j=>by left;simp[zew]
 |i+1,j=>by
  by_cases h:j<i+1
  .rw[xR l h];exact XJ (Ed l j)
  .left
   rw[dM,iY qU];rfl
theorem XK{l:List Nd}{i:Nat}{known:List Int}(hr:∀j,known.getD j 0=0\/1<=known.getD j 0/\known.getD j 0<=3)(h:zfJ l i known=3):∃m:Nat,kR l i=2*(m:Int)+1/\1<=m/\m<=16:=by
 unfold zfJ at h;split at h
 .cases h
 .rename_i n hn;split at h
  .cases h
  .rename_i s hs;split at h
   .rename_i c;rw[cJ]at c;have hl:=su hs;have hk:=Ax hr hs;have c1:=c.1;have e31:n.op=31:=by
     by_cases e:n.op=31
     .exact e
     .exfalso;unfold zeT at h;rw[ah e]at h;split at h
      .omega
      .split at h
       .rename_i c22;unfold zem at c1;rw[c22]at c1;have:bH 22=(3,true):=aY;rw[this]at c1;simp only[oL,bU]at c1;by_cases e:(0:Int)<=3/\(3:Int)≠s.length
        .rw[aE e]at c1;cases c1
        .obtain⟨a,b,c,rfl⟩:=rb (s:=s) ac;have hb:b=3:=h;subst hb;simp[zeH,zeW]at c1
       .split at h
        .omega
        .split at h<;>omega
    rw[e31]at c1;simp only[zem,bH]at c1;simp at c1;have c2:=c1.1;have p3:=c2.1.1;have po:=c2.1.2;have pl:=c2.2;rw[xV _ ac]at pl;refine⟨s.length/2,?_,ac,ac⟩;unfold kR;rw[gH,hn];simp only;omega
   .cases h
theorem XL{l:List Nd}{i:Nat}(hi:i<=l.length):Eb l i (zew l i)=zfJ l i (zew l i):=by
 unfold Eb zfJ;cases hn:l[i]? with
 |none=>rfl
 |some n=>
  simp only;cases hs:zfo i (zew l i) n.kids with
  |none=>rfl
  |some s=>
   simp only;refine(XH (su hs) (Ax (Ed l i) hs) fun h3 h25=>?_).symm;have hl:=su hs;cases hk:n.kids with
   |nil=>
    rw[hk]at hl hs;cases hs;simp at h3
   |cons k ks=>
    rw[hk]at hs;have hm:=ss hs k fm;rw[zfo]at hs;split at hs
    .cases hs
    .obtain⟨t,ht,rfl⟩:=mD.1 hs;rw[tX]at h3⊢;obtain⟨k,rfl⟩:=gG hm.1;rw[gH,xR l ac]at h3;exact XK (Ed l k) h3
end Go.Ab
