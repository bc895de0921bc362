/- Parts: R3a, EnX, EvR, Std, W6a, EvA, Strs, Ints, EvB, EvL, EvC. -/
import Derived.Test.YtljebeflbbgibaaGreatZCG
set_option linter.unusedSimpArgs false
set_option linter.unusedVariables false
set_option linter.unusedSectionVars false
set_option linter.defProp false
set_option maxHeartbeats 32000000
namespace Go.Ab
set_option maxRecDepth 20000
open Go
theorem db{P:Prop}(h:P:=by rfl):P:=h
theorem AF{P:Prop}(h:P:=by rw[A r ⟨_,rfl⟩];exact Z):P:=h
theorem wR{P:Prop}(h:P:=by have:=List.length_pos_iff.2 M;omega):P:=h
theorem jg{P:Prop}(h:P:=by rw[g];omega):P:=h
theorem hW{P:Prop}(h:P:=by rw[zcu,if_pos rfl];rfl):P:=h
theorem ls{P:Prop}(h:P:=by simp only[ze7];omega):P:=h
theorem jS{P:Prop}(h:P:=by rw[M];omega):P:=h
theorem mQ{P:Prop}(h:P:=by show _<=70368744177664;omega):P:=h
theorem Fh{P:Prop}(h:P:=by rw[List.drop_zero,List.length_take];omega):P:=h
theorem AG{P:Prop}(h:P:=by rw[<- Y];exact Nat.le_refl _):P:=h
theorem wS{P:Prop}(h:P:=by rw[List.length_set]):P:=h
theorem AH{P:Prop}(h:P:=by rw[List.length_cons];omega):P:=h
theorem uj{P:Prop}(h:P:=by rw[zcB];omega):P:=h
theorem AI{P:Prop}(h:P:=by rw[<- j];exact Nat.le_refl _):P:=h
theorem AJ{P:Prop}(h:P:=by rw[<- j,Hp.get_set,if_pos rfl]):P:=h
theorem r1{P:Prop}(h:P:=by simp only[zcz,Nat.reduceBEq, *];exact zeB (n:=s.length) ac ac):P:=h
def mR:=@List.all_cons
def oL:=@Bool.and_eq_false_iff
def mS:=@List.any_cons
def AK:=@Bool.or_assoc
def Fi:=@List.drop_length_add_append
def jT:=@Prod.ext
def cJ:=@List.getD_eq_getElem?_getD
def qi:=@List.replicate_succ
def Fj:=@List.set_eq_take_append_cons_drop
def nV:=@List.map_set
def lW:=@List.length_set
def d9:=@Option.bind_some
def lX:=@List.length_replicate
def oM:=@List.getElem?_replicate
end Go.Ab
namespace Go.Proofs.YtljebeflbbgibaaGreat
set_option maxRecDepth 20000
open Go Go.Ab
section
def tyR3a.tyF:=ad @bZ (ad @dl (ad @jQ (ad @uc (ad @hM (ad @mM (ad @jP (ad @iA (ad @gk (ad @mN (ad @cI (@iB)))))))))))
open tyR3a
theorem zdM(f:FuncId):Plain (zcq pls []) f:=⟨fun _=>rfl,rfl,rfl⟩
theorem zdm{l:List En}{f:FuncId}(h1:∀args,zdn l f args=none)(h2:iz l f=false):Plain (zcq pls l) f:=⟨h1,h2,rfl⟩
noncomputable def Fk:{c:SC // aA 21 (Tryz.f95.body.getD .skip)=c}:=by
 refine⟨?_,?_⟩;rotate_left
 .simp only[Tryz.f95,a3,aA,zcG,zcE,zcJ,zcK,Nat.blt,Nat.ble];rfl
noncomputable def Fl:{c:SC // aA 9 (Tryz.f96.body.getD .skip)=c}:=by
 refine⟨?_,?_⟩;rotate_left
 .simp only[Tryz.f96,a3,aA,zcG,zcE,zcJ,zcK,Nat.blt,Nat.ble];rfl
noncomputable def Fm:{c:SC // aA 34 (Tryz.f58.body.getD .skip)=c}:=by
 refine⟨?_,?_⟩;rotate_left
 .simp only[Tryz.f58,a3,aA,zcG,zcE,zcJ,zcK,Nat.blt,Nat.ble];rfl
noncomputable def Fo:{c:SC // aA 18 (Tryz.f59.body.getD .skip)=c}:=by
 refine⟨?_,?_⟩;rotate_left
 .simp only[Tryz.f59,a3,aA,zcG,zcE,zcJ,zcK,Nat.blt,Nat.ble];rfl
noncomputable def Fp:{c:SC // aA 10 (Tryz.f29.body.getD .skip)=c}:=by
 refine⟨?_,?_⟩;rotate_left
 .simp only[Tryz.f29,a3,aA,zcG,zcE,zcJ,zcK,Nat.blt,Nat.ble];rfl
theorem Wn(ρ:Nat->Int)(n:Int):a9 Tryz.prog ρ 95 [.int .u8 n] (.bool (lq n)):=zdv fit (pls:=pls) (l:=[]) trivial (.cons (.int _ _) .nil) (.bool _) (by
 have J:=zdM 95;refine zcv (M:=21) (rs:=[.tmp 2]) (J.call _) J.ice J.froz Tryz.func95 rfl rfl Fk.2 rfl ?_;dsimp only[Fk,zcr,Nat.reduceAdd];repeat' (first
  |(apply zcl ?_;clear hK K)|apply Rx.o ?_|apply qg ?_|(apply b0 (fun A I=>?_) (fun A I=>?_)<;>try(cases A;done))|apply ak ?_|(apply zcm fun K hK=>?_)|apply am ?_)
 all_goals (refine⟨eI,_,eR,?_⟩;try simp only[zcn])
 all_goals (simp_all[lq]<;>omega))
theorem Wo(ρ:Nat->Int)(n:Int):a9 Tryz.prog ρ 96 [.int .u8 n] (.bool (jR n)):=zdv fit (pls:=pls) (l:=[]) trivial (.cons (.int _ _) .nil) (.bool _) (by
 have J:=zdM 96;refine zcv (M:=9) (rs:=[.tmp 2]) (J.call _) J.ice J.froz Tryz.func96 rfl rfl Fl.2 rfl ?_;dsimp only[Fl,zcr,Nat.reduceAdd];repeat' (first
  |(apply zcl ?_;clear hK K)|apply Rx.o ?_|(apply b0 (fun A I=>?_) (fun A I=>?_)<;>try(cases A;done))|apply ak ?_|(apply zcm fun K hK=>?_)|apply am ?_)
 all_goals (refine⟨eI,_,eR,?_⟩;try simp only[zcn])
 all_goals (simp_all[jR]<;>omega))
def qj(n:Int):List AV:=[.int .u8 n]
theorem Fq(x y:Int)(h:qj x=qj y):x=y:=by simpa [qj]using h
noncomputable def uk:En:=⟨95,false,bX (fun _=>True) qj fun n=>.bool (lq n)⟩
noncomputable def ul:En:=⟨96,false,bX (fun _=>True) qj fun n=>.bool (jR n)⟩
theorem Wp(ρ:Nat->Int):zdd Tryz.prog ρ uk:=zdk fun n _=>Wn ρ n
theorem Wq(ρ:Nat->Int):zdd Tryz.prog ρ ul:=zdk fun n _=>Wo ρ n
theorem Wr(ρ:Nat->Int)(s:List UInt8)(hs:s.length<2^60):a9 Tryz.prog ρ 58 [.str s] (.bool (iV s)):=zdv fit (pls:=pls) (l:=[uk,ul]) ⟨Wp ρ,Wq ρ,trivial⟩ (.cons (.str _) .nil) (.bool _) (by
 have F:Plain (zcq pls [uk,ul]) 58:=zdm (fun _=>rfl) rfl;have kl:∀(n:Int) (H:Hp),zcx Tryz.prog (zcq pls [uk,ul]) 95 [.int .u8 n] H fun v H'=>v=.bool (lq n)/\H'=H:=fun n H=>zds (enc:=qj) (out:=fun n=>.bool (lq n)) Fq (x:=n) rfl trivial;have kd:∀(n:Int) (H:Hp),zcx Tryz.prog (zcq pls [uk,ul]) 96 [.int .u8 n] H fun v H'=>v=.bool (jR n)/\H'=H:=fun n H=>zds (enc:=qj) (out:=fun n=>.bool (jR n)) Fq (x:=n) rfl trivial;refine zcv (M:=34) (rs:=[.tmp 2]) (F.call _) F.ice F.froz Tryz.func58 rfl rfl Fm.2 rfl ?_;dsimp only[Fm,zcr,Nat.reduceAdd];repeat' (first
  |(apply zcl ?_;clear hK K)|apply Rx.o ?_|apply ak ?_|(apply zcm fun K hK=>?_)|apply ay ?_|fail)
 refine zdl [0] [] 3 s.length (fun i E H=>zdR s=i+zdR (s.drop i)/\(0<i->∀b,s[0]?=some b->jR b.toNat=false)) eE aD ?_;rintro i E H2 hi L J m hsI ⟨g,W⟩;(try simp only[zcO,zcI,aY,zcz,zcL,Nat.reduceBEq, *]at L);(try simp only[zcI, *]at J);(try simp only[zdg,]at m);repeat' (first
  |(apply zcl ?_;clear hK K)|apply Rx.o ?_|(apply b0 (fun A I=>?_) (fun A I=>?_)<;>try(cases A;done))|(apply aS (fun Y V=>?_) (fun Y V=>?_)<;>try(cases Y;done))|apply ak ?_|(apply zcm fun K hK=>?_)|apply ay ?_|apply zco ?_|apply am ?_|apply zcA ?_)
 .have O:i<s.length:=by simpa using Y
  have C:s[i]?=some s[i]:=aO O;have Z:zdR (s.drop i)=if iD s[i]then zdR (s.drop (i+1))+1 else 0:=by rw[d7 O,zdR]
  repeat' (first
   |(apply zcl ?_;clear hK K)|apply Rx.o ?_|(apply iU ?_;first|refine Rx.k (kl _ _) ?_|refine Rx.k (kd _ _) ?_)|apply qg ?_|(apply b0 (fun A I=>?_) (fun A I=>?_)<;>try(cases A;done))|(apply aS (fun Y V=>?_) (fun Y V=>?_)<;>try(cases Y;done))|apply ak ?_|(apply zcm fun K hK=>?_)|apply zco ?_|apply am ?_|fail)
  .all_goals (refine⟨eI,_,eR,?_⟩;try simp only[zcn])
   have j:i=0:=ac;subst j;unfold iV;cases s<;>simp_all
  .refine⟨ac,zcy,zcy,zcT,r1,?_⟩;have z:iD s[i]=true:=by simp_all[iD]
   refine⟨by rw[g,Z,z];simp;omega,fun _ b U=>W ac b U⟩
  .all_goals (refine⟨eI,_,eR,?_⟩;try simp only[zcn])
   have z:iD s[i]=false:=by simp_all[iD]
   rw[z]at Z;simp at Z;unfold iV;simp[show ¬zdR s=s.length by omega]
  .refine⟨ac,zcy,zcy,zcT,r1,?_⟩;have z:iD s[i]=true:=by simp_all[iD]
   refine⟨by rw[g,Z,z];simp;omega,fun _ b U=>?_⟩;by_cases h0:0<i
   .exact W h0 b U
   .have j:i=0:=by omega
    subst j;rw[C]at U;have:s[0]=b:=by simpa using U
    subst this;have o:lq s[0].toNat=true:=by simp_all
    simp only[lq,jR]at *;simp only[nJ,kw]at o;simp only[oL,jw];omega
 all_goals
  have hie:i=s.length:=ac;all_goals (refine⟨eI,_,eR,?_⟩;try simp only[zcn])
  rw[hie]at g;simp[zdR]at g;unfold iV;cases s<;>simp_all<;>omega)
def zcP(l:List (List UInt8))(s:List UInt8):Bool:=l.any fun x=>decide (x=s)
def AL(op:Int):Bool:=decide (4<=op)&&decide (op<=18)
def zeroE(x:Ex):Bool:=decide (x.kind=0)&&decide (x.n=0)&&decide (x.name=[])&&decide (x.op=0)&&decide (x.kids.length=0)
def jh:List Fu->List UInt8->Int->Int
 |[],_,_=>-1
 |f::l,s,i=>if f.name=s then i else jh l s (i+1)
def jU:List (List UInt8):=[[97,114,114,97,121],[102,117,110,99],[118,97,114],[114,101,116,117,114,110],[105,102],[101,108,115,101],[119,104,105,108,101],[111,117,116],[116,114,97,112]]
theorem Fs(s:List UInt8):zcP jU s=oK s:=by
 simp only[zcP,jU,oK,mS,List.any_nil,jx,<-AK];simp only[eq_comm]
theorem Ws(H:Hp)(a b c d e f g h i:List UInt8):zdS Tryz.prog H 100 9 [(0,.str a),(1,.str b),(2,.str c),(3,.str d),(4,.str e),(5,.str f),(6,.str g),(7,.str h),(8,.str i)]=some (.sl H.next 0 9 1,H.alloc (.cells ([a,b,c,d,e,f,g,h,i].map .str) 0 true)):=af
theorem Wt(ρ:Nat->Int)(s:List UInt8):a9 Tryz.prog ρ 59 [.str s] (.bool (oK s)):=zdv fit (pls:=pls) (l:=[]) trivial (.cons (.str _) .nil) (.bool _) (by
 have J:=zdM 59;refine zcv (M:=18) (rs:=[.tmp 2]) (J.call _) J.ice J.froz Tryz.func59 rfl rfl Fo.2 rfl ?_;dsimp only[Fo,zcr,Nat.reduceAdd];have O:=@Ws;repeat' (first
  |(apply zcl ?_;clear hK K)|apply Rx.o ?_|apply ak ?_|(apply zcm fun K hK=>?_)|apply ay ?_|fail)
 refine zdl [0,3] [0] 4 9 (fun i E H=>zcP jU s=zcP (jU.drop i) s) eE aD ?_;rintro i E Y hi W j m o g;(try simp only[zcO,zcI,aY,zcz,zcL,Nat.reduceBEq, *]at W);(try simp only[zcO,zcI,aY,zcz,zcL, *]at j);(try simp only[zcB,zdg,bw]at m);have L:(0 == Y.next)=false:=zcD ac;have I:(Y.next == 0)=false:=zcD ac;change Y.get 0=some (.cells (jU.map .str) 0 true)at j;have F:jU.length=9:=rfl;repeat' (first
  |(apply zcl ?_;clear hK K)|apply Rx.o ?_|(apply aS (fun z V=>?_) (fun z V=>?_)<;>try(cases z;done))|apply ak ?_|(apply zcm fun K hK=>?_)|apply ay ?_|apply zco ?_|apply am ?_|apply zcA ?_)
 .have Z:i<jU.length:=by omega
  have C:jU[i]?=some jU[i]:=aO Z;have U:zcP (jU.drop i) s=(decide (jU[i]=s)||zcP (jU.drop (i+1)) s):=by rw[d7 Z];rfl
  have A:decide (i<9)=true:=co;repeat' (first
   |(apply zcl ?_;clear hK K)|apply Ry.o ?_|(apply aB (fun z V=>?_) (fun z V=>?_)<;>try(cases z;done))|apply ak ?_|(apply zcm fun K hK=>?_)|apply zco ?_|apply am ?_|fail)
  .all_goals (refine⟨eI,_,eR,?_⟩;try simp only[zcn])
   rw[<-Fs,g,U];simp_all
  .refine⟨ac,(by simp only[zcO,zcI,aY,zcz,zcL,Nat.reduceBEq,jU, *]),(by simp only[zcO,zcI,aY,zcz,zcL,jU, *]),zcT,(by simp only[zcz,Nat.reduceBEq, *];exact zeB (n:=9) ac ac),?_⟩;rw[g,U];simp_all
 .all_goals (refine⟨eI,_,eR,?_⟩;try simp only[zcn])
  rw[<-Fs,g,show i=9 by omega];rfl)
def kE(s:List UInt8):List AV:=[.str s]
theorem r4(x y:List UInt8)(h:kE x=kE y):x=y:=by simpa [kE]using h
noncomputable def um:En:=⟨58,false,bX (fun s=>s.length<2^60) kE fun s=>.bool (iV s)⟩
noncomputable def uo:En:=⟨59,false,bX (fun _=>True) kE fun s=>.bool (oK s)⟩
theorem Wu(ρ:Nat->Int):zdd Tryz.prog ρ um:=zdk fun s K=>Wr ρ s K
theorem Wv(ρ:Nat->Int):zdd Tryz.prog ρ uo:=zdk fun s _=>Wt ρ s
theorem Ww(ρ:Nat->Int)(s:List UInt8)(Z:s.length<2^60):a9 Tryz.prog ρ 29 [.str s] (.bool (zc9 s)):=zdv fit (pls:=pls) (l:=[um,uo]) ⟨Wu ρ,Wv ρ,trivial⟩ (.cons (.str _) .nil) (.bool _) (by
 have J:Plain (zcq pls [um,uo]) 29:=zdm (fun _=>rfl) rfl;have o:∀(H:Hp),zcx Tryz.prog (zcq pls [um,uo]) 58 [.str s] H fun v H'=>v=.bool (iV s)/\H'=H:=fun H=>zds (enc:=kE) (out:=fun n=>.bool (iV n)) r4 (x:=s) rfl Z;have i:∀(H:Hp),zcx Tryz.prog (zcq pls [um,uo]) 59 [.str s] H fun v H'=>v=.bool (oK s)/\H'=H:=fun H=>zds (enc:=kE) (out:=fun n=>.bool (oK n)) r4 (x:=s) rfl trivial;refine zcv (M:=10) (rs:=[.tmp 2]) (J.call _) J.ice J.froz Tryz.func29 rfl rfl Fp.2 rfl ?_;dsimp only[Fp,zcr,Nat.reduceAdd];repeat' (first
  |(apply zcl ?_;clear hK K)|apply Rx.o ?_|(apply iU ?_;first|refine Rx.k (o _) ?_|refine Rx.k (i _) ?_)|(apply b0 (fun A I=>?_) (fun A I=>?_)<;>try(cases A;done))|apply ak ?_|(apply zcm fun K hK=>?_)|apply am ?_)
 all_goals (refine⟨eI,_,eR,?_⟩;try simp only[zcn])
 all_goals (simp_all[zc9]))
end
section
def ji:Nat->AV->Bool
 |0,_=>false
 |n+1,v=>match v with
  | .sl _ _ _ _=>true
  | .agg W=>W.any (ji n)
  |_=>false
theorem wT{S:Nat->Prop}{H:Hp}{n m k:Nat}(ih:∀{v u:AV},zdf S n H v u->ji m (bE k v)=false->bE k u=bE k v):∀{W F:List AV},zcW (zdf S n H) W F->(W.map (bE k)).any (ji m)=false->F.map (bE k)=W.map (bE k)
 |[],[],_,_=>rfl
 |c::W,d::F,h,h2=>by
  simp only[dJ,mS,k3]at h2;rw[dJ,dJ,ih h.1 h2.1,wT ih h.2 h2.2]
theorem AM{S:Nat->Prop}{H:Hp}:∀(n m k:Nat) {v u:AV},n<=m->zdf S n H v u->ji m (bE k v)=false->bE k u=bE k v
 |0,_,_,_,_,_,h,_=>h.elim
 |n+1,0,_,_,_,h,_,_=>by omega
 |n+1,m+1,k,v,u,hm,h,h2=>by
  cases v with
  |sl r o l z=>cases k<;>simp[bE,ji]at h2
  |agg W=>
   obtain⟨F,i,rfl⟩:=h;cases k with
   |zero=>
    have e:∀v,bE 0 v=v:=fun v=>by cases v<;>rfl
    have Z:(W.map (bE 0)).any (ji m)=false:=by
     rw[show W.map (bE 0)=W by rw[show bE 0=id from funext e,List.map_id]];simpa [bE,ji]using h2
    have:=wT (k:=0) (fun U j=>AM n m 0 ac U j) i Z;rw[show bE 0=id from funext e,List.map_id,List.map_id]at this;rw[this]
   |succ k=>
    have Z:(W.map (bE k)).any (ji m)=false:=by simpa [bE,ji]using h2
    show AV.agg (F.map (bE k))=AV.agg (W.map (bE k));rw[wT (fun U j=>AM n m k ac U j) i Z]
  |_=>obtain⟨_,rfl⟩:=h;rfl
theorem r7{l:List En}{fn:FuncId}{M:Type}{ok:M->Prop}{enc:M->List AV}{out:M->AV}(I:∀x y,enc x=enc y->x=y)(Z:∀z,zdn l fn z=bX ok enc out (z.map (bE 60)))(C:iz l fn=true)(o:∀y,(enc y).any (ji 90)=false){x:M}(F:ok x){S:Nat->Prop}{n:Nat}(Y:n<=90){H:Hp}{args us:List AV}(h1:zcW (zdf S n H) args us)(h2:us.map (bE 60)=enc x):
 zcx Tryz.prog (zcq pls l) fn args H fun v H'=>v=out x/\Icy S H H':=by
 by_cases hd:∃y,ok y/\enc y=args.map (bE 60)
 .obtain⟨y,_,e⟩:=hd;have W:us.map (bE 60)=args.map (bE 60):=wT (m:=90) (fun U j=>AM n 90 60 Y U j) h1 (by rw[<-e];exact o y);refine a7 ?_ (z6 (r:=out x) (by show zdn l fn args=_;rw[Z,<-W,h2];exact z5 I F));rintro v H' ⟨rfl,rfl⟩;exact⟨rfl,Icy.refl _ _⟩
 .obtain⟨H',U,j⟩:=zdf.iceL (n:=100) (l:=args) (m:=us) (zcW.mono (fun a b k=>zdf.up k ac) h1);refine DJ (r:=out x) ?_ C rfl U ?_ ⟨rfl,j⟩
  .show zdn l fn args=none;rw[Z];exact D9 fun y K e=>hd ⟨y,K,e⟩
  .show zdn l fn us=_;rw[Z,h2];exact z5 I F
theorem AN{P:Program}{cfg:Cfg}{f N:Nat}{a:SC}{E:ao}{H:Hp}{Q:AX->ao->Hp->Prop}(F:ao->Hp->Prop)(h1:zcY P cfg f N a E H fun x E' H'=>x=.normal/\F E' H')(h2:∀E' H',F E' H'->Q .normal E' H'):zcY P cfg f N a E H Q:=
 zcY.mono (fun x E' H' h=>by obtain⟨rfl,h⟩:=h;exact h2 E' H' h) h1
structure Ext9 (S:Nat->Prop) (H H':Hp):Prop where
 next:H.next<=H'.next
 get:∀q,S q->q<H.next->H'.get q=H.get q
theorem Ext9.refl(S:Nat->Prop)(H:Hp):Ext9 S H H:=⟨aM _,fun _ _ _=>rfl⟩
theorem Ext9.trans{S:Nat->Prop}{a b c:Hp}(h:Ext9 S a b)(k:Ext9 S b c):Ext9 S a c:=⟨eG h.next k.next,fun q i g=>(k.get q i (fZ g h.next)).trans (h.get q i g)⟩
theorem Ext9.sub{S T:Nat->Prop}{a b:Hp}(h:Ext9 T a b)(K:∀q,q<a.next->S q->T q):Ext9 S a b:=⟨h.next,fun q i g=>h.get q (K q g i) g⟩
def mT(S:Nat->Prop)(H:Hp)(v:AV)(l:List Int):Prop:=∃q g,v=.sl q 0 l.length 1/\S q/\q<H.next/\H.get q=some (.cells (zdt l) g true)/\l.length<2^30
def mU(S:Nat->Prop)(H:Hp)(v:AV)(cs:List (List Int)):Prop:=(cs=[]/\v=.nilS)\/∃q g vs,v=.sl q 0 vs.length 1/\S q/\q<H.next/\H.get q=some (.cells vs g true)/\vs.length<2^30/\zcW (mT S H) vs cs
def iW(S:Nat->Prop)(H:Hp):AV->List Int->Prop
 |v,[]=>v=.nilP
 |v,n::l=>∃q w,v=.ptr q 0/\S q/\q<H.next/\H.get q=some (.cells [.int .i64 n,w] 0 true)/\iW S H w l
structure St9 (S:Nat->Prop) (H:Hp) (p:Nat) (cv ov:AV) (s:S9):Prop where
 own:S p
 lt:p<H.next
 get:H.get p=some (.cells [cv,ov,.int .i64 s.fuel,.int .i64 s.ed,.int .i64 s.code,.int .i64 s.last] 0 true)
 cells:mU S H cv s.cells
 out:iW S H ov s.out
def fK(S:Nat->Prop)(H:Hp)(v:AV)(s:S9):Prop:=∃p cv ov,v=.ptr p 0/\St9 S H p cv ov s
def iE(S:Nat->Prop)(H:Hp)(v:AV):Option S9->Prop
 |none=>v=.nilP
 |some s=>fK S H v s
def lY(S:Nat->Prop)(H:Hp)(row:List AV)(r:R9):Prop:=∃F,row=[.bool r.k,.int .i64 r.v,F,.nilP]/\iE S H F r.s
theorem mT.keep{S:Nat->Prop}{H H':Hp}{v:AV}{l:List Int}(h:mT S H v l)(k:Ext9 S H H'):mT S H' v l:=by
 obtain⟨q,g,e,i,Z,o,U⟩:=h;exact⟨q,g,e,i,fZ Z k.next,by rw[k.get q i Z];exact o,U⟩
theorem mU.keep{S:Nat->Prop}{H H':Hp}{v:AV}{l:List (List Int)}(h:mU S H v l)(k:Ext9 S H H'):mU S H' v l:=by
 rcases h with h|⟨q,g,vs,e,i,Z,o,U,j⟩
 .exact .inl h
 .exact .inr ⟨q,g,vs,e,i,fZ Z k.next,by rw[k.get q i Z];exact o,U,j.mono fun a b h=>h.keep k⟩
theorem iW.keep{S:Nat->Prop}{H H':Hp}(k:Ext9 S H H'):∀{l:List Int}{v:AV},iW S H v l->iW S H' v l
 |[],_,h=>h
 |n::l,_,⟨q,w,e,h1,h2,h3,h4⟩=>⟨q,w,e,h1,fZ h2 k.next,by rw[k.get q h1 h2];exact h3,iW.keep k h4⟩
theorem St9.keep{S:Nat->Prop}{H H':Hp}{p:Nat}{cv ov:AV}{s:S9}(h:St9 S H p cv ov s)(k:Ext9 S H H'):St9 S H' p cv ov s:=
 ⟨h.own,fZ h.lt k.next,by rw[k.get p h.own h.lt];exact h.get,h.cells.keep k,h.out.keep k⟩
theorem fK.keep{S:Nat->Prop}{H H':Hp}{v:AV}{s:S9}(h:fK S H v s)(k:Ext9 S H H'):fK S H' v s:=by
 obtain⟨p,cv,ov,e,h⟩:=h;exact⟨p,cv,ov,e,h.keep k⟩
def wU:=@fK.keep
theorem iE.keep{S:Nat->Prop}{H H':Hp}{v:AV}:∀{s:Option S9},iE S H v s->Ext9 S H H'->iE S H' v s
 |none,h,_=>h
 |some _,h,k=>wU h k
theorem lY.keep{S:Nat->Prop}{H H':Hp}{row:List AV}{r:R9}(h:lY S H row r)(k:Ext9 S H H'):lY S H' row r:=by
 obtain⟨F,e,h⟩:=h;exact⟨F,e,h.keep k⟩
theorem iW.one{S:Nat->Prop}{H:Hp}{v:AV}:∀{l:List Int},iW S H v l->AV.one v=true/\v.cells=[v]
 |[],h=>by rw[show v=.nilP from h];exact⟨rfl,rfl⟩
 |n::l,h=>by obtain⟨q,w,rfl,_⟩:=h;exact⟨rfl,rfl⟩
theorem mU.one{S:Nat->Prop}{H:Hp}{v:AV}{l:List (List Int)}(h:mU S H v l):AV.one v=true/\v.cells=[v]:=by
 rcases h with⟨_,rfl⟩|⟨q,g,vs,rfl,_⟩<;>exact⟨rfl,rfl⟩
theorem fK.one{S:Nat->Prop}{H:Hp}{v:AV}{s:S9}(h:fK S H v s):AV.one v=true:=by
 obtain⟨p,cv,ov,rfl,_⟩:=h;rfl
theorem iE.one{S:Nat->Prop}{H:Hp}{v:AV}:∀{s:Option S9},iE S H v s->AV.one v=true
 |none,h=>by rw[show v=.nilP from h];rfl
 |some _,h=>fK.one h
theorem iE.two{S:Nat->Prop}{H:Hp}{v:AV}:∀{s:Option S9},iE S H v s->AV.one v=true/\v.cells=[v]
 |none,h=>by rw[show v=.nilP from h];exact⟨rfl,rfl⟩
 |some _,h=>by obtain⟨p,cv,ov,rfl,_⟩:=(h:fK S H v _);exact⟨rfl,rfl⟩
theorem lY.len{S:Nat->Prop}{H:Hp}{row:List AV}{r:R9}(h:lY S H row r):row.length=4:=by
 obtain⟨F,rfl,_⟩:=h;rfl
theorem Rows9.len{S:Nat->Prop}{H:Hp}:∀{rows:List (List AV)}{res:List R9},zcW (lY S H) rows res->∀x∈rows,x.length=4
 |[],[],_,x,F=>by cases F
 |r::rows,t::res,h,x,F=>by
  rcases fk.1 F with rfl|F
  .exact h.1.len
  .exact Rows9.len h.2 x F
theorem mT.sub{S T:Nat->Prop}{H:Hp}{v:AV}{l:List Int}(h:mT S H v l)(hS:∀q,q<H.next->S q->T q):mT T H v l:=by
 obtain⟨q,g,e,i,Z,o⟩:=h;exact⟨q,g,e,hS q Z i,Z,o⟩
theorem mU.sub{S T:Nat->Prop}{H:Hp}{v:AV}{l:List (List Int)}(h:mU S H v l)(hS:∀q,q<H.next->S q->T q):mU T H v l:=by
 rcases h with h|⟨q,g,vs,e,i,Z,o,U,j⟩
 .exact .inl h
 .exact .inr ⟨q,g,vs,e,hS q Z i,Z,o,U,j.mono fun a b h=>h.sub hS⟩
theorem iW.sub{S T:Nat->Prop}{H:Hp}(hS:∀q,q<H.next->S q->T q):∀{l:List Int}{v:AV},iW S H v l->iW T H v l
 |[],_,h=>h
 |n::l,_,⟨q,w,e,h1,h2,h3,h4⟩=>⟨q,w,e,hS q h2 h1,h2,h3,iW.sub hS h4⟩
theorem fK.sub{S T:Nat->Prop}{H:Hp}{v:AV}{s:S9}(h:fK S H v s)(hS:∀q,q<H.next->S q->T q):fK T H v s:=by
 obtain⟨p,cv,ov,e,h⟩:=h;exact⟨p,cv,ov,e,hS p h.lt h.own,h.lt,h.get,h.cells.sub hS,iW.sub hS h.out⟩
theorem iE.sub{S T:Nat->Prop}{H:Hp}{v:AV}(hS:∀q,q<H.next->S q->T q):∀{s:Option S9},iE S H v s->iE T H v s
 |none,h=>h
 |some _,h=>fK.sub h hS
theorem lY.sub{S T:Nat->Prop}{H:Hp}{row:List AV}{r:R9}(h:lY S H row r)(hS:∀q,q<H.next->S q->T q):lY T H row r:=by
 obtain⟨F,e,h⟩:=h;exact⟨F,e,iE.sub hS h⟩
def gQ(u:Un)(L:AV)(f:Int)(F:AV)(args:List Int)(Z n:Nat):List AV:=[.lst (u.arrays.map Ar.cells),.lst (u.funcs.map Gr.cells),L,.int .i64 f,F,jO args,.sl Z 0 n 4,.nilP,.nilP,.nilP,.nilP,.nilP,.nilP,.nilP,.nilP,.nilP,.nilP,.nilP,.nilP,.nilP,.nilP,.nilP,.nilP]
structure Cx9 where
 S:Nat->Prop
 xp:Nat
 rp:Nat
 u:Un
 hv:AV
 f:Nat
 g:Gr
 sv:AV
 start:S9
 args:List Int
structure Cx9.Ok (c:Cx9):Prop where
 g:c.u.funcs[c.f]?=some c.g
 ne:c.xp≠c.rp
 sx:¬c.S c.xp
 sr:¬c.S c.rp
 len:c.g.nodes.length<2^30
structure Fr9 (c:Cx9) (H:Hp) (rows:List (List AV)) (res:List R9):Prop where
 x:H.get c.xp=some (.cells (gQ c.u c.hv c.f c.sv c.args c.rp res.length) 0 true)
 r:H.get c.rp=some (.cells rows.flatten 0 true)
 lx:c.xp<H.next
 lr:c.rp<H.next
 st:fK c.S H c.sv c.start
 rows:zcW (lY c.S H) rows res
 up:∀q,H.next<=q->c.S q
 len:res.length=c.g.nodes.length
theorem Fr9.keep{c:Cx9}{H H':Hp}{rows:List (List AV)}{Z:List R9}(h:Fr9 c H rows Z)(m:H.next<=H'.next)(A:∀q,q<H.next->H'.get q=H.get q):Fr9 c H' rows Z:=
 have k:Ext9 c.S H H':=⟨m,fun q _ h=>A q h⟩
 ⟨by rw[A _ h.lx];exact h.x,by rw[A _ h.lr];exact h.r,fZ h.lx m,fZ h.lr m,h.st.keep k,h.rows.mono fun a b h=>h.keep k,fun q K=>h.up q (eG m K),h.len⟩
theorem Fr9.get{c:Cx9}{H:Hp}{rows:List (List AV)}{Z:List R9}(h:Fr9 c H rows Z){k:Int}{r:R9}(j:zdC Z k=some r):∃F,0<=k/\k<Z.length/\rows[k.toNat]?=some [.bool r.k,.int .i64 r.v,F,.nilP]/\iE c.S H F r.s/\rows.flatten.drop (k.toNat*4)=[.bool r.k,.int .i64 r.v,F,.nilP]++(rows.drop (k.toNat+1)).flatten:=by
 unfold zdC at j;split at j
 .rename_i W;have I:=zcW.len h.rows;have z:k.toNat<Z.length:=by
   by_cases c:k.toNat<Z.length
   .exact c
   .rw[fG ac]at j;cases j
  have hr:rows[k.toNat]?=some (rows[k.toNat]' ac):=aO ac;obtain⟨F,e,J⟩:=zcW.get h.rows hr j;refine⟨F,W,ac,by rw[hr,e],J,?_⟩;have:=aO (l:=rows) (i:=k.toNat) ac;have U:=Rows9.len h.rows;have o:∀(rows:List (List AV)) (i:Nat) (r:List AV),(∀x∈rows,x.length=4)->rows[i]?=some r->rows.flatten.drop (i*4)=r++(rows.drop (i+1)).flatten:=by
   intro rows;induction rows with
   |nil=>intro i r _ e;simp at e
   |cons a rows ih=>
    intro i r h e;have V:=h a eW;cases i with
    |zero=>simp only[oE,az]at e;subst e;simp
    |succ i=>
     rw[lN,show(i+1)*4=a.length+i*4 by omega,Fi,ih i r (fun x Y=>h x (e8 _ Y)) ww];rfl
  exact o rows _ _ U (by rw[hr,e])
 .cases j
def kn(f:FuncId):Bool:=f == 37||f == 99999999||f == 99999999||f == 55
structure Std (cfg:Cfg):Prop where
 plain:∀f,kn f=false->Plain cfg f
 keep:∀f,cfg.keep f=false
 plan:cfg.plan=tU pls
def tyW6a.tyF:=ad @bZ (ad @cI (ad @uf (ad @Av (ad @Az (ad @AA (ad @Wk (ad @mG (@Nc))))))))
open tyW6a
noncomputable def Ft:{c:SC // aA 4 (Tryz.f122.body.getD .skip)=c}:=by
 refine⟨?_,?_⟩;rotate_left
 .simp only[Tryz.f122,a3,aA,zcG,zcE,zcJ,zcK,Nat.blt,Nat.ble];rfl
noncomputable def Fv:{c:SC // aA 15 (Tryz.f79.body.getD .skip)=c}:=by
 refine⟨?_,?_⟩;rotate_left
 .simp only[Tryz.f79,a3,aA,zcG,zcE,zcJ,zcK,Nat.blt,Nat.ble];rfl
noncomputable def Fw:{c:SC // aA 14 (Tryz.f48.body.getD .skip)=c}:=by
 refine⟨?_,?_⟩;rotate_left
 .simp only[Tryz.f48,a3,aA,zcG,zcE,zcJ,zcK,Nat.blt,Nat.ble];rfl
noncomputable def Fx:{c:SC // aA 61 (Tryz.f80.body.getD .skip)=c}:=by
 refine⟨?_,?_⟩;rotate_left
 .simp only[Tryz.f80,a3,aA,zcG,zcE,zcJ,zcK,Nat.blt,Nat.ble];rfl
noncomputable def Fy:{c:SC // aA 58 (Tryz.f49.body.getD .skip)=c}:=by
 refine⟨?_,?_⟩;rotate_left
 .simp only[Tryz.f49,a3,aA,zcG,zcE,zcJ,zcK,Nat.blt,Nat.ble];rfl
theorem Wx{cfg:Cfg}(hS:Std cfg)(b:Bool)(H:Hp):zcx Tryz.prog cfg 122 [.bool b] H fun v H'=>v=.int .i64 (pV b)/\H'=H:=by
 cases b<;>
 .refine zcv (M:=4) (rs:=[.tmp 2]) ((hS.plain _ rfl).call _) (hS.plain _ rfl).ice (hS.plain _ rfl).froz Tryz.func122 rfl rfl Ft.2 rfl ?_;dsimp only[Ft,zcr,Nat.reduceAdd];repeat' (first
   |(apply zcl ?_;clear hK K)|apply Rx.o ?_|(apply aS (fun z V=>?_) (fun z V=>?_)<;>try(cases z;done))|apply ak ?_|(apply zcm fun K hK=>?_)|apply zco ?_|apply am ?_)
  all_goals (refine⟨eI,_,eR,?_⟩;try simp only[zcn])
  simp[pV]
theorem Wy{cfg:Cfg}(hS:Std cfg)(a b:Int)(H:Hp):zcx Tryz.prog cfg 79 [.int .i64 a,.int .i64 b] H fun v H'=>v=.int .i64 (rO a b)/\H'=H:=by
 refine zcv (M:=15) (rs:=[.tmp 4]) ((hS.plain _ rfl).call _) (hS.plain _ rfl).ice (hS.plain _ rfl).froz Tryz.func79 rfl rfl Fv.2 rfl ?_;dsimp only[Fv,zcr,Nat.reduceAdd];repeat' (first
  |(apply zcl ?_;clear hK K)|apply Rx.o ?_|(apply aS (fun z V=>?_) (fun z V=>?_)<;>try(cases z;done))|apply ak ?_|(apply zcm fun K hK=>?_)|apply ay ?_|apply zco ?_|apply am ?_)
 .all_goals (refine⟨eI,_,eR,?_⟩;try simp only[zcn])
  simp_all[rO]
 .all_goals (refine⟨eI,_,eR,?_⟩;try simp only[zcn])
  simp_all[rO]
 .have U:b≠0:=by assumption
  repeat' (first
   |(apply zcl ?_;clear hK K)|apply Rx.o ?_|(apply aS (fun z V=>?_) (fun z V=>?_)<;>try(cases z;done))|apply ak ?_|(apply zcm fun K hK=>?_)|apply ay ?_|apply zco ?_|apply am ?_)
  all_goals (refine⟨eI,_,eR,?_⟩;try simp only[zcn])
  simp_all[rO]
theorem Wz{cfg:Cfg}(hS:Std cfg)(op a:Int)(H:Hp):zcx Tryz.prog cfg 48 [.int .i64 op,.int .i64 a] H fun v H'=>v=.int .i64 (pX op a)/\H'=H:=by
 refine zcv (M:=14) (rs:=[.tmp 4]) ((hS.plain _ rfl).call _) (hS.plain _ rfl).ice (hS.plain _ rfl).froz Tryz.func48 rfl rfl Fw.2 rfl ?_;dsimp only[Fw,zcr,Nat.reduceAdd];repeat' (first
  |(apply zcl ?_;clear hK K)|apply Rx.o ?_|(apply aS (fun z V=>?_) (fun z V=>?_)<;>try(cases z;done))|apply ak ?_|(apply zcm fun K hK=>?_)|apply ay ?_|apply zco ?_|apply am ?_)
 all_goals (refine⟨eI,_,eR,?_⟩;try simp only[zcn])
 all_goals simp_all[pX]
theorem WA{cfg:Cfg}(hS:Std cfg)(op a b:Int)(H:Hp):zcx Tryz.prog cfg 80 [.int .i64 op,.int .i64 a,.int .i64 b] H fun v H'=>v=.int .i64 (zR op a b)/\H'=H:=by
 have L:=Ng b;have U:zdr Tryz.prog cfg.dec .shl 2 (.int .i64 a) (.int .u64 (nN b))=_:=Nh L;have F:zdr Tryz.prog cfg.dec .shr 2 (.int .i64 a) (.int .u64 (nN b))=_:=bin_shr L;have Z:zdr Tryz.prog cfg.dec .shr 154 (.int .u64 (IntKind.wrap .u64 a)) (.int .u64 (nN b))=_:=bin_shr L;unfold nN at U F Z;refine zcv (M:=61) (rs:=[.tmp 6]) ((hS.plain _ rfl).call _) (hS.plain _ rfl).ice (hS.plain _ rfl).froz Tryz.func80 rfl rfl Fx.2 rfl ?_;dsimp only[Fx,zcr,Nat.reduceAdd];repeat' (first
  |(apply zcl ?_;clear hK K)|apply Rx.o ?_|(apply iU ?_;first|refine Rx.k (Wx hS _ _) ?_)|(apply aS (fun z V=>?_) (fun z V=>?_)<;>try(cases z;done))|apply ak ?_|(apply zcm fun K hK=>?_)|apply ay ?_|apply zco ?_|apply am ?_)
 all_goals (refine⟨eI,_,eR,?_⟩;try simp only[zcn])
 all_goals simp_all[zR,nN]
theorem WB{cfg:Cfg}(hS:Std cfg)(op a b:Int)(H:Hp):zcx Tryz.prog cfg 49 [.int .i64 op,.int .i64 a,.int .i64 b] H fun v H'=>v=.int .i64 (pW op a b)/\H'=H:=by
 refine zcv (M:=58) (rs:=[.tmp 6]) ((hS.plain _ rfl).call _) (hS.plain _ rfl).ice (hS.plain _ rfl).froz Tryz.func49 rfl rfl Fy.2 rfl ?_;dsimp only[Fy,zcr,Nat.reduceAdd];repeat' (first
  |(apply zcl ?_;clear hK K)|apply Rx.o ?_|(apply iU ?_;first|refine Rx.k (Wy hS _ _ _) ?_|refine Rx.k (WA hS _ _ _ _) ?_)|(apply aS (fun z V=>?_) (fun z V=>?_)<;>try(cases z;done))|apply ak ?_|(apply zcm fun K hK=>?_)|apply ay ?_|apply zco ?_|apply am ?_)
 all_goals (refine⟨eI,_,eR,?_⟩;try simp only[zcn])
 all_goals simp_all[pW]
end
section
def tyEvA.tyF:=ad @cI (ad @bZ (ad @lk (ad @ju (ad @ll (ad @oH (ad @p9 (ad @qc (ad @rW (ad @qd (ad @qe (ad @qf (ad @d8 (ad @eY (ad @rT (ad @qa (@rV))))))))))))))))
open tyEvA
noncomputable def Fz:{c:SC // aA 14 (Tryz.f149.body.getD .skip)=c}:=by
 refine⟨?_,?_⟩;rotate_left
 .simp only[Tryz.f149,a3,aA,zcG,zcE,zcJ,zcK,Nat.blt,Nat.ble];rfl
noncomputable def wV:{c:SC // aA 25 (Tryz.f150.body.getD .skip)=c}:=by
 refine⟨?_,?_⟩;rotate_left
 .simp only[Tryz.f150,a3,aA,zcG,zcE,zcJ,zcK,Nat.blt,Nat.ble];rfl
noncomputable def r8:{c:SC // aA 27 (Tryz.f151.body.getD .skip)=c}:=by
 refine⟨?_,?_⟩;rotate_left
 .simp only[Tryz.f151,a3,aA,zcG,zcE,zcJ,zcK,Nat.blt,Nat.ble];rfl
def wW(f:FuncId):Bool:=Nat.beq f 149||Nat.beq f 150||Nat.beq f 102||Nat.beq f 104||Nat.beq f 151||Nat.beq f 184||Nat.beq f 153||Nat.beq f 103||Nat.beq f 65||Nat.beq f 36||Nat.beq f 34||Nat.beq f 33||Nat.beq f 35
def sa(x:Int×Int):List AV:=[.int .i64 x.1,.int .i64 x.2]
theorem WC(x y:Int×Int)(h:sa x=sa y):x=y:=by
 simp only[sa,cM,AV.int.injEq,aY,fH]at h;exact jT h.1 h.2
def sc(x:Int×Int×Int):List AV:=[.int .i64 x.1,.int .i64 x.2.1,.int .i64 x.2.2]
theorem WD(x y:Int×Int×Int)(h:sc x=sc y):x=y:=by
 simp only[sc,cM,AV.int.injEq,aY,fH]at h;exact jT h.1 (jT h.2.1 h.2.2)
theorem FA:Std (zcq pls []) where
 plain f _:=zdm (fun _=>rfl) rfl
 keep _:=rfl
 plan:=rfl
theorem WE(ρ:Nat->Int)(x:Int×Int):a9 Tryz.prog ρ 48 (sa x) (.int .i64 (pX x.1 x.2)):=zdv fit (pls:=pls) (l:=[]) trivial (.cons (.int _ _) (.cons (.int _ _) .nil)) (.int _ _) (a7 (fun v H' h=>h.1) (Wz FA x.1 x.2 zc2))
theorem WF(ρ:Nat->Int)(x:Int×Int×Int):a9 Tryz.prog ρ 49 (sc x) (.int .i64 (pW x.1 x.2.1 x.2.2)):=zdv fit (pls:=pls) (l:=[]) trivial (.cons (.int _ _) (.cons (.int _ _) (.cons (.int _ _) .nil))) (.int _ _) (a7 (fun v H' h=>h.1) (WB FA x.1 x.2.1 x.2.2 zc2))
noncomputable def AO:En:=⟨48,false,bX (fun _=>True) sa fun x=>.int .i64 (pX x.1 x.2)⟩
theorem WG(ρ:Nat->Int):zdd Tryz.prog ρ AO:=zdk fun x _=>WE ρ x
noncomputable def AP:En:=⟨49,false,bX (fun _=>True) sc fun x=>.int .i64 (pW x.1 x.2.1 x.2.2)⟩
theorem WH(ρ:Nat->Int):zdd Tryz.prog ρ AP:=zdk fun x _=>WF ρ x
structure EvT (tb:List En):Prop where
 pl:∀f,wW f=true->(∀ar,zdn tb f ar=none)/\iz tb f=false
 un:∀ar,zdn tb 48 ar=AO.sp ar
 bi:∀ar,zdn tb 49 ar=AP.sp ar
theorem EvT.plain{tb:List En}(h:EvT tb){f:FuncId}(i:wW f=true):Plain (zcq pls tb) f:=zdm (h.pl f i).1 (h.pl f i).2
theorem EvT.kUn{tb:List En}(h:EvT tb)(op a:Int)(H:Hp):zcx Tryz.prog (zcq pls tb) 48 [.int .i64 op,.int .i64 a] H fun v H'=>v=.int .i64 (pX op a)/\H'=H:=zds (enc:=sa) (ok:=fun _=>True) (out:=fun x=>.int .i64 (pX x.1 x.2)) WC (x:=(op,a)) (h.un _) trivial
theorem EvT.kBi{tb:List En}(h:EvT tb)(op a b:Int)(H:Hp):zcx Tryz.prog (zcq pls tb) 49 [.int .i64 op,.int .i64 a,.int .i64 b] H fun v H'=>v=.int .i64 (pW op a b)/\H'=H:=zds (enc:=sc) (ok:=fun _=>True) (out:=fun x=>.int .i64 (pW x.1 x.2.1 x.2.2)) WD (x:=(op,a,b)) (h.bi _) trivial
structure At9 (c:Cx9) (n:Nat) (r:R9) (sv:AV) (H:Hp):Prop where
 l0:zdZ Tryz.prog H 4 (.ptr c.rp (n*4))=some (.bool r.k)
 l1:zdZ Tryz.prog H 2 (.ptr c.rp (n*4+1))=some (.int .i64 r.v)
 l2:zdZ Tryz.prog H 76 (.ptr c.rp (n*4+2))=some sv
 lr:zdZ Tryz.prog H 134 (.ptr c.rp (n*4))=some (.agg [.bool r.k,.int .i64 r.v,sv,.nilP])
theorem Fr9.alloc{c:Cx9}{H:Hp}{rows:List (List AV)}{Z:List R9}(h:Fr9 c H rows Z)(b:HB):Fr9 c (H.alloc b) rows Z:=h.keep (f7 _) fun q K=>fF
theorem Fr9.at{c:Cx9}{H:Hp}{rows:List (List AV)}{Z:List R9}(g:Fr9 c H rows Z){n:Nat}{r:R9}(j:zdC Z n=some r):∃F,n<Z.length/\iE c.S H F r.s/\zcU Tryz.prog 127 (.sl c.rp 0 Z.length 4) (.int .i64 (n:Int))=some (.ptr c.rp (n*4))/\∀H',Fr9 c H' rows Z->At9 c n r F H':=by
 obtain⟨F,z,i,hr,J,hd⟩:=g.get j;rw[dL]at hr hd;refine⟨F,ac,J,by rw[mH Tryz.underlying127 ug ac];simp,fun H' V=>?_⟩;have Y:=V.r;obtain⟨m,U,rs⟩:=r;have O:=J.one;have A:rows.flatten.drop (n*4+1)=[.int .i64 U,F,.nilP]++(rows.drop (n+1)).flatten:=by rw[<-vE,hd];rfl
 have K:rows.flatten.drop (n*4+2)=[F,.nilP]++(rows.drop (n+1)).flatten:=by rw[<-vE,hd];rfl
 have I:∀(W:List AV) (o:Nat),rE Tryz.prog 4 o (some (.cells W 0 true))=W[o]?:=fun _ _=>af;have M:∀(W:List AV) (o:Nat),rE Tryz.prog 2 o (some (.cells W 0 true))=W[o]?:=fun _ _=>af;have C:∀(W:List AV) (o:Nat),rE Tryz.prog 76 o (some (.cells W 0 true))=W[o]?:=fun _ _=>af;have L:∀(W:List AV) (o:Nat),rE Tryz.prog 134 o (some (.cells W 0 true))=zc6 4 (W.drop o):=fun _ _=>af;have e:∀(o:Nat),rows.flatten[o]?=(rows.flatten.drop o)[0]?:=fun o=>by rw[nD,my]
 refine⟨?_,?_,?_,?_⟩
 .rw[rF,Y,I,e,hd];rfl
 .rw[rF,Y,M,e,A];rfl
 .rw[rF,Y,C,e,K];rfl
 .rw[rF,Y,L,hd];rfl
theorem FB{S:Nat->Prop}{H:Hp}{cv:AV}{cs:List (List Int)}(h:mU S H cv cs){m:Nat}{l:List Int}(I:cs[m]?=some l):∃q g vs L j,cv=.sl q 0 vs.length 1/\m<vs.length/\vs.length=cs.length/\S q/\q<H.next/\H.get q=some (.cells vs g true)/\vs.length<2^30/\zcW (mT S H) vs cs/\vs[m]?=some (.sl L 0 l.length 1)/\S L/\L<H.next/\H.get L=some (.cells (zdt l) j true)/\l.length<2^30:=by
 rcases h with⟨rfl,_⟩|⟨q,g,vs,rfl,i,O,o,M,Z⟩
 .simp at I
 .have e:=zcW.len Z;have K:m<cs.length:=by
   by_cases c:m<cs.length
   .exact c
   .rw[fG ac]at I;cases I
  have Y:vs[m]?=some vs[m]:=aO ac;obtain⟨L,j,A,W,F,V,U⟩:=zcW.get Z Y I;exact⟨q,g,vs,L,j,rfl,ac,e,i,O,o,M,Z,by rw[Y,A],W,F,V,U⟩
theorem AQ{q n m:Nat}(h:m<n):zcU Tryz.prog 58 (.sl q 0 n 1) (.int .i64 (m:Int))=some (.ptr q m):=by rw[mH Tryz.underlying58 ud h];simp
theorem AR{q n m:Nat}(h:m<n):zcU Tryz.prog 33 (.sl q 0 n 1) (.int .i64 (m:Int))=some (.ptr q m):=by rw[mH Tryz.underlying33 ub h];simp
theorem WI{l:List Int}{j:Nat}(h:j<l.length):(zdt l)[j]?=some (.int .i64 (l.getD j 0)):=by
 unfold zdt;rw[dX,cJ,aO h];rfl
section
variable {tb:List En} (hT:EvT tb) {c:Cx9} {H:Hp} {rows:List (List AV)} {res:List R9}
include hT
theorem WJ(g:Fr9 c H rows res){k:Int}{r:R9}(j:zdC res k=some r):zcx Tryz.prog (zcq pls tb) 149 [.ptr c.xp 0,.int .i64 k] H fun v H'=>v=.int .i64 (if r.k=true then -1 else k)/\H'=H:=by
 have J:Plain (zcq pls tb) 149:=hT.plain db;obtain⟨n,rfl⟩:∃n:Nat,k=n:=⟨k.toNat,by obtain⟨_,o,_⟩:=g.get j;omega⟩;obtain⟨F,m,W,U,I⟩:=g.at j;have Y:=g.x;unfold gQ at Y;have a0:=(I H g).l0;obtain⟨Z,O,rs⟩:=r;cases Z<;>
 .refine zcv (M:=14) (rs:=[.tmp 4]) (J.call _) J.ice J.froz Tryz.func149 rfl rfl Fz.2 rfl ?_;dsimp only[Fz,zcr,Nat.reduceAdd];repeat' (first
   |(apply zcl ?_;clear hK K)|apply Rx.o ?_|(apply aS (fun z V=>?_) (fun z V=>?_)<;>try(cases z;done))|apply ak ?_|(apply zcm fun K hK=>?_)|apply zco ?_|apply am ?_)
  all_goals (refine⟨eI,_,eR,?_⟩;try simp only[zcn])
  exact⟨rfl,trivial⟩
theorem FC(Y:Fr9 c H rows res){n:Nd}(I:n.kids.length<2^30){k:Int}(j:li res n=some k):zcx Tryz.prog (zcq pls tb) 150 [.ptr c.xp 0,.agg n.cells] H fun v H'=>v=.int .i64 k/\H'=H.alloc (.cells n.cells 0 true):=by
 have J:Plain (zcq pls tb) 150:=hT.plain db;unfold li at j;obtain⟨r,O,W⟩:=ch.1 j;obtain⟨zdz,o,U⟩:=ch.1 O;obtain⟨m,rfl⟩:∃m:Nat,zdz=m:=⟨zdz.toNat,by obtain⟨_,h0,_⟩:=Y.get U;omega⟩;obtain⟨sv,hn,ho,hx,F⟩:=Y.at U;obtain⟨i,g,L⟩:=n;simp only at o W I;have C:(Nd.mk i g L).cells=[.int .i64 i,.int .i64 g,.lst (L.map fun k=>[.int .i64 k])]:=rfl;rw[C];have Z:=Y.alloc (.cells [.int .i64 i,.int .i64 g,.lst (L.map fun k=>[.int .i64 k])] 0 true);have A:=Z.x;unfold gQ at A;have a1:=(F _ Z).l1;have y0:(c.xp == H.next)=false:=zcD (by have:=Y.lx;omega);by_cases hv:r.v=0
 .rw[ah ac]at W;refine zcv (M:=25) (rs:=[.tmp 4]) (J.call _) J.ice J.froz Tryz.func150 rfl rfl wV.2 rfl ?_;dsimp only[wV,zcr,Nat.reduceAdd];repeat' (first
   |(apply zcl ?_;clear hK K)|apply Ry.o ?_|(apply aB (fun z V=>?_) (fun z V=>?_)<;>try(cases z;done))|apply ak ?_|(apply zcm fun K hK=>?_)|(apply zc4 1 [(3,12),(5,12),(7,12),(10,12)] fun K hK=>?_)|(apply zcV ?_;try intro _)|(apply zc5 ?_ ?_<;>clear hK K)|apply bD ?_|apply zco ?_|apply am ?_)
  .exact eK
  all_goals (refine⟨eI,_,eR,?_⟩;try simp only[zcn])
  exact⟨trivial,trivial⟩
 .rw[ax hv]at W;refine zcv (M:=25) (rs:=[.tmp 4]) (J.call _) J.ice J.froz Tryz.func150 rfl rfl wV.2 rfl ?_;dsimp only[wV,zcr,Nat.reduceAdd];repeat' (first
   |(apply zcl ?_;clear hK K)|apply Ry.o ?_|(apply aB (fun z V=>?_) (fun z V=>?_)<;>try(cases z;done))|apply ak ?_|(apply zcm fun K hK=>?_)|(apply zc4 1 [(3,12),(5,12),(7,12),(10,12)] fun K hK=>?_)|(apply zcV ?_;try intro _)|(apply zc5 ?_ ?_<;>clear hK K)|apply bD ?_|apply am ?_)
  .exact eK
  all_goals (refine⟨eI,_,eR,?_⟩;try simp only[zcn])
  exact⟨trivial,trivial⟩
theorem WK{S:Nat->Prop}{v:AV}{s:S9}(hS:fK S H v s){a i x:Int}(h:zZ s a i=some x):zcx Tryz.prog (zcq pls tb) 151 [v,.int .i64 a,.int .i64 i] H fun w H'=>w=.int .i64 x/\H'=H:=by
 have J:Plain (zcq pls tb) 151:=hT.plain db;obtain⟨p,cv,ov,rfl,hp⟩:=hS;unfold zZ at h;split at h
 .rename_i C;obtain⟨m,rfl⟩:∃m:Nat,a=m:=⟨a.toNat,ac⟩;rw[dL]at h;obtain⟨l,Z,F⟩:=ch.1 h;simp only[az]at F;obtain⟨q,g,vs,L,Y,rfl,W,U,_,_,gq,_,_,gv,_,_,g2,_⟩:=FB hp.cells Z;clear U;have gp:=hp.get;have x1:=AQ (q:=q) W;clear h Z;by_cases o:i<0
  .rw[ax (.inl o)]at F;subst F;refine zcv (M:=27) (rs:=[.tmp 6]) (J.call _) J.ice J.froz Tryz.func151 rfl rfl r8.2 rfl ?_;dsimp only[r8,zcr,Nat.reduceAdd];repeat' (first
    |(apply zcl ?_;clear hK K)|apply Ry.o ?_|(apply a8 (fun A I=>?_) (fun A I=>?_)<;>try(cases A;done))|(apply aB (fun z V=>?_) (fun z V=>?_)<;>try(cases z;done))|apply ak ?_|(apply zcm fun K hK=>?_)|apply am ?_)
   all_goals (refine⟨eI,_,eR,?_⟩;try simp only[zcn])
   first|exact⟨trivial,trivial⟩|exact⟨rfl,trivial⟩
  obtain⟨j,rfl⟩:∃j:Nat,i=j:=⟨i.toNat,ac⟩;by_cases O:(l.length:Int)<=j
  .rw[ax (.inr O)]at F;subst F;refine zcv (M:=27) (rs:=[.tmp 6]) (J.call _) J.ice J.froz Tryz.func151 rfl rfl r8.2 rfl ?_;dsimp only[r8,zcr,Nat.reduceAdd];repeat' (first
    |(apply zcl ?_;clear hK K)|apply Ry.o ?_|(apply a8 (fun A I=>?_) (fun A I=>?_)<;>try(cases A;done))|(apply aB (fun z V=>?_) (fun z V=>?_)<;>try(cases z;done))|apply ak ?_|(apply zcm fun K hK=>?_)|apply am ?_)
   all_goals (refine⟨eI,_,eR,?_⟩;try simp only[zcn])
   first|exact⟨trivial,trivial⟩|exact⟨rfl,trivial⟩
  .rw[ah ac,dL]at F;subst F;have x2:=AR (q:=L) (n:=l.length) (m:=j) ac;have gj:=WI (l:=l) (j:=j) ac;refine zcv (M:=27) (rs:=[.tmp 6]) (J.call _) J.ice J.froz Tryz.func151 rfl rfl r8.2 rfl ?_;dsimp only[r8,zcr,Nat.reduceAdd];repeat' (first
    |(apply zcl ?_;clear hK K)|apply Ry.o ?_|(apply a8 (fun A I=>?_) (fun A I=>?_)<;>try(cases A;done))|(apply aB (fun z V=>?_) (fun z V=>?_)<;>try(cases z;done))|apply ak ?_|(apply zcm fun K hK=>?_)|apply zco ?_|apply am ?_)
   all_goals (refine⟨eI,_,eR,?_⟩;try simp only[zcn])
   first|exact⟨trivial,trivial⟩|exact⟨rfl,trivial⟩
 .cases h
end
end
section
def lw(H:Hp)(v:AV)(l:List (List UInt8))(lo:Nat):Prop:=∃r g,v=.sl r 0 l.length 1/\H.get r=some (.cells (l.map .str) g true)/\g<=l.length/\lo<=r/\r<H.next
def mV(H:Hp)(v:AV)(l:List (List UInt8))(lo:Nat):Prop:=(v=.nilS/\l=[])\/lw H v l lo
theorem lw.low{H H':Hp}{v:AV}{l:List (List UInt8)}{lo:Nat}(h:lw H v l lo)(m:H.next<=H'.next)(A:∀k,lo<=k->k<H.next->H'.get k=H.get k):lw H' v l lo:=by
 obtain⟨r,g,i,Z,o,U,j⟩:=h;exact⟨r,g,i,by rw[A r U j];exact Z,o,U,ac⟩
def zdF(v:AV)(k:Nat):Prop:=∃n,v=.sl k 0 n 1
def oN(v A:AV)(H H':Hp):Prop:=(∀k,k<H.next->¬zdF v k->H'.get k=H.get k)/\∀k,zdF A k->zdF v k\/H.next<=k
theorem lw.lt{H:Hp}{v:AV}{l:List (List UInt8)}{lo:Nat}(h:lw H v l lo){k:Nat}(j:zdF v k):lo<=k/\k<H.next:=by
 obtain⟨r,g,rfl,_,_,U,Z⟩:=h;obtain⟨n,e⟩:=j;simp only[AV.sl.injEq]at e;rw[<-e.1];exact⟨U,Z⟩
theorem mV.lt{H:Hp}{v:AV}{l:List (List UInt8)}{lo:Nat}(h:mV H v l lo){k:Nat}(j:zdF v k):lo<=k/\k<H.next:=by
 rcases h with⟨rfl,_⟩|h
 .obtain⟨n,e⟩:=j;simp at e
 .exact h.lt j
theorem lw.keep{H H':Hp}{v:AV}{l:List (List UInt8)}{lo:Nat}(h:lw H v l lo)(m:H.next<=H'.next)(A:∀k,zdF v k->H'.get k=H.get k):lw H' v l lo:=by
 obtain⟨r,g,rfl,Z,o,U,j⟩:=h;exact⟨r,g,rfl,AF,o,U,ac⟩
theorem mV.keep{H H':Hp}{v:AV}{l:List (List UInt8)}{lo:Nat}(h:mV H v l lo)(m:H.next<=H'.next)(A:∀k,zdF v k->H'.get k=H.get k):mV H' v l lo:=h.imp id fun h=>h.keep m A
theorem FD(l:List (List UInt8)):(l.map AV.str).all AV.one=true:=by simp[AV.one]
theorem WL{H:Hp}{r imm:Nat}{m:List (List UInt8)}(h:H.get r=some (.cells (m.map .str) imm true)):zer H 1 (.sl r 0 m.length 1)=some (m.length,m.map .str):=by
 have:=lT (H:=H) (r:=r) (o:=0) (n:=m.length) (z:=1) (s:=1) h aD;rw[this,dQ,ev aD]
theorem WM{H:Hp}{v x:AV}{l m:List (List UInt8)}{lo:Nat}(L:mV H v l lo)(J:lo<=H.next)(F:zer H 1 x=some (m.length,m.map .str))(M:m≠[])(z:l.length+m.length<2^40):
 ∃A H',zdX Tryz.prog false H 100 100 v x=some (A,H')/\lw H' A (l++m) lo/\H'.next=H.next+1/\(∀k,k<lo->H'.get k=H.get k)/\oN v A H H':=by
 obtain⟨n,Y⟩:∃n,m.length=n+1:=⟨m.length-1,wR⟩;have g:zdO=70368744177664:=rfl;rw[Y]at F;rcases L with⟨rfl,rfl⟩|⟨r,Z,rfl,W,O,K,I⟩
 .refine⟨.sl H.next 0 (n+1) 1,H.alloc (.cells (m.map .str) 0 true),append_nil Tryz.underlying100 Ai Aj Ak af F (FD m) rfl jg jg,⟨H.next,0,by simp[Y],hW,ac,J,cL _⟩,rfl,fun k j=>fF,fun k j _=>fF,fun k j=>.inr ?_⟩;obtain⟨V,e⟩:=j;simp only[AV.sl.injEq]at e;omega
 .have U:fY false H 1 (.sl r 0 l.length 1)=H:=by
   unfold fY;simp only[W,bw,cR,gg];have:Nat.blt l.length l.length=false:=by
    cases z:Nat.blt l.length l.length with
    |false=>rfl
    |true=>rw[gE]at z;omega
   simp[this]
  refine⟨.sl H.next 0 (l.length+(n+1)) 1,(H.kill r).alloc (.cells (l.map .str++m.map .str) (Z-0) true),?_,⟨H.next,Z,by simp[Y],?_,co,J,cL _⟩,rfl,fun k j=>?_,fun k j o=>?_,fun k j=>.inr ?_⟩
  .simp only[zdX,Tryz.underlying100,Ai,Aj,Ak,show j9 Tryz.prog 100=true by kernel_rfl,F,FD,U,mE,bT,dg,jo,jH,W,cR,bw,gg,dQ];rw[ax ⟨jg,jg,trivial,trivial,O⟩];simp
  .show((H.kill r).alloc _).get (H.kill r).next=_
   rw[zcu,ax rfl];simp
  .rw[zcu,ah ls,zem,ah ac]
  .rw[zcu,ah ls,zem,ah (fun e=>o ⟨_,k7⟩)]
  .obtain⟨V,e⟩:=j;simp only[AV.sl.injEq]at e;omega
theorem FE{H:Hp}{v:AV}{l:List (List UInt8)}{lo r imm:Nat}(s:List UInt8)(L:mV H v l lo)(J:lo<=H.next)(K:H.get r=some (.cells [.str s] imm true))(z:l.length<2^39):
 ∃A H',zdX Tryz.prog false H 100 100 v (.sl r 0 1 1)=some (A,H')/\lw H' A (l++[s]) lo/\H'.next=H.next+1/\(∀k,k<lo->H'.get k=H.get k)/\oN v A H H':=
 WM L J (WL (m:=[s]) K) aD co
theorem WN(l:List (List UInt8)):zdP 1 l.length (l.map .str)=l.map fun s=>[AV.str s]:=by
 induction l with
 |nil=>rfl
 |cons a l ih=>simp[zdP,ih]
def eN(H:Hp)(v:AV)(l:List Int)(lo:Nat):Prop:=∃r g,v=.sl r 0 l.length 1/\H.get r=some (.cells (l.map (.int .i64)) g true)/\g<=l.length/\lo<=r/\r<H.next
def eh(H:Hp)(v:AV)(l:List Int)(lo:Nat):Prop:=(v=.nilS/\l=[])\/eN H v l lo
theorem eN.low{H H':Hp}{v:AV}{l:List Int}{lo:Nat}(h:eN H v l lo)(m:H.next<=H'.next)(A:∀k,lo<=k->k<H.next->H'.get k=H.get k):eN H' v l lo:=by
 obtain⟨r,g,i,Z,o,U,j⟩:=h;exact⟨r,g,i,by rw[A r U j];exact Z,o,U,ac⟩
theorem eN.lt{H:Hp}{v:AV}{l:List Int}{lo:Nat}(h:eN H v l lo){k:Nat}(j:zdF v k):lo<=k/\k<H.next:=by
 obtain⟨r,g,rfl,_,_,U,Z⟩:=h;obtain⟨n,e⟩:=j;simp only[AV.sl.injEq]at e;rw[<-e.1];exact⟨U,Z⟩
theorem eh.lt{H:Hp}{v:AV}{l:List Int}{lo:Nat}(h:eh H v l lo){k:Nat}(j:zdF v k):lo<=k/\k<H.next:=by
 rcases h with⟨rfl,_⟩|h
 .obtain⟨n,e⟩:=j;simp at e
 .exact h.lt j
theorem eN.keep{H H':Hp}{v:AV}{l:List Int}{lo:Nat}(h:eN H v l lo)(m:H.next<=H'.next)(A:∀k,zdF v k->H'.get k=H.get k):eN H' v l lo:=by
 obtain⟨r,g,rfl,Z,o,U,j⟩:=h;exact⟨r,g,rfl,AF,o,U,ac⟩
theorem eh.keep{H H':Hp}{v:AV}{l:List Int}{lo:Nat}(h:eh H v l lo)(m:H.next<=H'.next)(A:∀k,zdF v k->H'.get k=H.get k):eh H' v l lo:=h.imp id fun h=>h.keep m A
theorem wX(l:List Int):(l.map (AV.int .i64)).all AV.one=true:=by simp[AV.one]
theorem FF{H:Hp}{r imm:Nat}{m:List Int}(h:H.get r=some (.cells (m.map (.int .i64)) imm true)):zer H 1 (.sl r 0 m.length 1)=some (m.length,m.map (.int .i64)):=by
 have:=lT (H:=H) (r:=r) (o:=0) (n:=m.length) (z:=1) (s:=1) h aD;rw[this,dQ,ev aD]
theorem WO{H:Hp}{v x:AV}{l m:List Int}{lo:Nat}(L:eh H v l lo)(J:lo<=H.next)(F:zer H 1 x=some (m.length,m.map (.int .i64)))(M:m≠[])(z:l.length+m.length<2^40):
 ∃A H',zdX Tryz.prog false H 23 23 v x=some (A,H')/\eN H' A (l++m) lo/\H'.next=H.next+1/\(∀k,k<lo->H'.get k=H.get k)/\oN v A H H':=by
 obtain⟨n,Y⟩:∃n,m.length=n+1:=⟨m.length-1,wR⟩;have g:zdO=70368744177664:=rfl;rw[Y]at F;rcases L with⟨rfl,rfl⟩|⟨r,Z,rfl,W,O,K,I⟩
 .refine⟨.sl H.next 0 (n+1) 1,H.alloc (.cells (m.map (.int .i64)) 0 true),append_nil Tryz.underlying23 jf p7 p8 af F (wX m) rfl jg jg,⟨H.next,0,by simp[Y],hW,ac,J,cL _⟩,rfl,fun k j=>fF,fun k j _=>fF,fun k j=>.inr ?_⟩;obtain⟨V,e⟩:=j;simp only[AV.sl.injEq]at e;omega
 .have U:fY false H 1 (.sl r 0 l.length 1)=H:=by
   unfold fY;simp only[W,bw,cR,gg];have:Nat.blt l.length l.length=false:=by
    cases z:Nat.blt l.length l.length with
    |false=>rfl
    |true=>rw[gE]at z;omega
   simp[this]
  refine⟨.sl H.next 0 (l.length+(n+1)) 1,(H.kill r).alloc (.cells (l.map (.int .i64)++m.map (.int .i64)) (Z-0) true),?_,⟨H.next,Z,by simp[Y],?_,co,J,cL _⟩,rfl,fun k j=>?_,fun k j o=>?_,fun k j=>.inr ?_⟩
  .simp only[zdX,Tryz.underlying23,jf,p7,p8,show j9 Tryz.prog 23=true by kernel_rfl,F,wX,U,mE,bT,dg,jo,jH,W,cR,bw,gg,dQ];rw[ax ⟨jg,jg,trivial,trivial,O⟩];simp
  .show((H.kill r).alloc _).get (H.kill r).next=_
   rw[zcu,ax rfl];simp
  .rw[zcu,ah ls,zem,ah ac]
  .rw[zcu,ah ls,zem,ah (fun e=>o ⟨_,k7⟩)]
  .obtain⟨V,e⟩:=j;simp only[AV.sl.injEq]at e;omega
theorem wY{H:Hp}{v:AV}{l:List Int}{lo r imm:Nat}(s:Int)(L:eh H v l lo)(J:lo<=H.next)(K:H.get r=some (.cells [.int .i64 s] imm true))(z:l.length<2^39):
 ∃A H',zdX Tryz.prog false H 23 23 v (.sl r 0 1 1)=some (A,H')/\eN H' A (l++[s]) lo/\H'.next=H.next+1/\(∀k,k<lo->H'.get k=H.get k)/\oN v A H H':=
 WO L J (FF (m:=[s]) K) aD co
theorem eN.len{H H':Hp}{v:AV}{l:List Int}{lo:Nat}(h:eN H v l lo):zc0 Tryz.prog H' 23 v=some (.int .i64 l.length):=by
 obtain⟨r,g,rfl,_⟩:=h;exact zez Tryz.underlying23 _ _ _ _
theorem eN.at{H:Hp}{v:AV}{l:List Int}{lo:Nat}(h:eN H v l lo){i:Nat}(C:i<l.length):
 ∃r,zcU Tryz.prog 23 v (.int .i64 (i:Int))=some (.ptr r i)/\zdZ Tryz.prog H 3 (.ptr r i)=some (.int .i64 l[i]):=by
 obtain⟨r,g,rfl,Z,_⟩:=h;refine⟨r,?_,?_⟩
 .rw[mH Tryz.underlying23 jf C];simp
 .rw[pS Tryz.underlying3 rfl Z,dX,aO C];rfl
theorem AS(l:List Int):zdP 1 l.length (l.map (.int .i64))=l.map fun s=>[AV.int .i64 s]:=by
 induction l with
 |nil=>rfl
 |cons a l ih=>simp[zdP,ih]
theorem FG(n:Nat):∀(l:List Int) (H:Hp),ii (fw (n+1)) (l.map (.int .i64)) H=some (l.map (.int .i64),H)
 |[],H=>rfl
 |a::l,H=>by
  have:=FG n l H;have e:fw (n+1) (.int .i64 a) H=some (.int .i64 a,H):=rfl;simp only[dJ,ii,e,this]
theorem eN.ice{H:Hp}{v:AV}{l:List Int}{lo:Nat}(h:eN H v l lo)(n:Nat):
 ∃H',fw (n+2) v H=some (jk l,H')/\eN H' v l lo/\H'.next=H.next/\(∀k,k<lo->H'.get k=H.get k)/\∀k,¬zdF v k->H'.get k=H.get k:=by
 obtain⟨r,g,rfl,Z,o,U,Y⟩:=h;refine⟨H.set r (.cells (l.map (.int .i64)) (max g l.length) true),?_,⟨r,max g l.length,rfl,hB,ac,U,Y⟩,rfl,fun k j=>by rw[aU,ah ac],fun k j=>by rw[aU,ah (fun e=>j ⟨_,k7⟩)]⟩;have e:fw (n+2) (.sl r 0 l.length 1) H=match H.get r with
  |some (.cells W g O)=>match Nat.ble (0+l.length*1) W.length&&Nat.ble g W.length with
   |true=>match ii (fw (n+1)) ((W.drop 0).take (l.length*1)) (H.set r (.cells W (max g (0+l.length*1)) O))with
    |some (V,H)=>some (.lst (zdP 1 l.length V),H)
    |none=>none
   |false=>none
  |_=>none:=rfl
 rw[e,Z];simp only[cR,bw,gg,dQ];have A:Nat.ble l.length l.length=true:=by rw[wy];omega
 have F:Nat.ble g l.length=true:=by rw[wy];omega
 rw[A,F];simp only[pM];rw[ev aD,FG];simp only[AS]
def oO(H:Hp)(v:AV)(l:List Int)(lo:Nat):Prop:=∃r,v=.sl r 0 l.length 1/\H.get r=some (.cells (l.map (.int .i64)) 0 true)/\lo<=r/\r<H.next
def mW(H:Hp)(v:AV)(l:List Int)(lo:Nat):Prop:=(v=.nilS/\l=[])\/oO H v l lo
theorem oO.b{H:Hp}{v:AV}{l:List Int}{lo:Nat}(h:oO H v l lo):eN H v l lo:=by
 obtain⟨r,i,g,o,U⟩:=h;exact⟨r,0,i,g,cK _,o,U⟩
theorem mW.n{H:Hp}{v:AV}{l:List Int}{lo:Nat}(h:mW H v l lo):eh H v l lo:=h.imp id fun h=>h.b
theorem oO.keep{H H':Hp}{v:AV}{l:List Int}{lo:Nat}(h:oO H v l lo)(m:H.next<=H'.next)(A:∀k,zdF v k->H'.get k=H.get k):oO H' v l lo:=by
 obtain⟨r,rfl,g,U,j⟩:=h;exact⟨r,rfl,by rw[A r ⟨_,rfl⟩];exact g,U,ac⟩
theorem mW.keep{H H':Hp}{v:AV}{l:List Int}{lo:Nat}(h:mW H v l lo)(m:H.next<=H'.next)(A:∀k,zdF v k->H'.get k=H.get k):mW H' v l lo:=h.imp id fun h=>h.keep m A
theorem WP{H:Hp}{v x:AV}{l m:List Int}{lo:Nat}(L:mW H v l lo)(J:lo<=H.next)(F:zer H 1 x=some (m.length,m.map (.int .i64)))(M:m≠[])(z:l.length+m.length<2^40):
 ∃A H',zdX Tryz.prog false H 23 23 v x=some (A,H')/\oO H' A (l++m) lo/\H'.next=H.next+1/\(∀k,k<lo->H'.get k=H.get k)/\oN v A H H':=by
 obtain⟨n,Z⟩:∃n,m.length=n+1:=⟨m.length-1,wR⟩;have g:zdO=70368744177664:=rfl;rw[Z]at F;rcases L with⟨rfl,rfl⟩|⟨r,rfl,Y,V,O⟩
 .refine⟨.sl H.next 0 (n+1) 1,H.alloc (.cells (m.map (.int .i64)) 0 true),append_nil Tryz.underlying23 jf p7 p8 af F (wX m) rfl jg jg,⟨H.next,by simp[Z],hW,J,cL _⟩,rfl,fun k j=>fF,fun k j _=>fF,fun k j=>.inr ?_⟩;obtain⟨W,e⟩:=j;simp only[AV.sl.injEq]at e;omega
 .have U:fY false H 1 (.sl r 0 l.length 1)=H:=by
   unfold fY;simp only[Y,bw,cR,gg];have:Nat.blt l.length l.length=false:=by
    cases z:Nat.blt l.length l.length with
    |false=>rfl
    |true=>rw[gE]at z;omega
   simp[this]
  refine⟨.sl H.next 0 (l.length+(n+1)) 1,(H.kill r).alloc (.cells (l.map (.int .i64)++m.map (.int .i64)) (0-0) true),?_,⟨H.next,by simp[Z],?_,J,cL _⟩,rfl,fun k j=>?_,fun k j o=>?_,fun k j=>.inr ?_⟩
  .simp only[zdX,Tryz.underlying23,jf,p7,p8,show j9 Tryz.prog 23=true by kernel_rfl,F,wX,U,mE,bT,dg,jo,jH,Y,cR,bw,gg,dQ];rw[ax ⟨jg,jg,trivial,trivial,cK _⟩];simp
  .show((H.kill r).alloc _).get (H.kill r).next=_
   rw[zcu,ax rfl];simp
  .rw[zcu,ah ls,zem,ah ac]
  .rw[zcu,ah ls,zem,ah (fun e=>o ⟨_,k7⟩)]
  .obtain⟨W,e⟩:=j;simp only[AV.sl.injEq]at e;omega
theorem WQ{H:Hp}{v:AV}{l:List Int}{lo r imm:Nat}(s:Int)(L:mW H v l lo)(J:lo<=H.next)(K:H.get r=some (.cells [.int .i64 s] imm true))(z:l.length<2^39):
 ∃A H',zdX Tryz.prog false H 23 23 v (.sl r 0 1 1)=some (A,H')/\oO H' A (l++[s]) lo/\H'.next=H.next+1/\(∀k,k<lo->H'.get k=H.get k)/\oN v A H H':=
 WP L J (FF (m:=[s]) K) aD co
theorem WR(n:Nat):gw [.int .i64 0] n=(List.replicate n (0:Int)).map (.int .i64):=by
 induction n with
 |zero=>rfl
 |succ n ih=>simp only[gw,ih];simp[qi]
theorem WS(n:Nat):gw [.bool false] n=(List.replicate n false).map .bool:=by
 induction n with
 |zero=>rfl
 |succ n ih=>simp only[gw,ih];simp[qi]
theorem WT{H:Hp}(n c:Nat)(h:n<=c)(O:c<2^40):zeb Tryz.prog H 23 (.int .i64 n) (.int .i64 c)=some (.sl H.next 0 n 1,H.alloc (.cells ((List.replicate n (0:Int)).map (.int .i64)) 0 true)):=by
 have M:zdO=70368744177664:=rfl;show zeb Tryz.prog H 23 (.int .i64 (Int.ofNat n)) (.int .i64 (Int.ofNat c))=_;simp only[zeb,Tryz.underlying23,jf,p7,p8];rw[ax ⟨h,jS,jS,rfl⟩,WR]
theorem FH{H:Hp}(n:Nat)(O:n<2^40):zeb Tryz.prog H 121 (.int .i64 n) (.int .i64 n)=some (.sl H.next 0 n 1,H.alloc (.cells ((List.replicate n false).map .bool) 0 true)):=by
 have M:zdO=70368744177664:=rfl;show zeb Tryz.prog H 121 (.int .i64 (Int.ofNat n)) (.int .i64 (Int.ofNat n))=_;simp only[zeb,Tryz.underlying121,wE,Ec,Ee];rw[ax ⟨aM _,jS,jS,rfl⟩,WS]
theorem splice_one(cs:List AV){o:Nat}(J:o<cs.length)(x:AV):splice cs o [x]=cs.set o x:=by
 rw[DR,Fj,ax J];simp
theorem uq{H:Hp}{r o:Nat}{cs:List AV}(A:H.get r=some (.cells cs 0 true))(J:o<cs.length)(n:Int):zet Tryz.prog H 3 (.ptr r o) (.int .i64 n)=some (H.set r (.cells (cs.set o (.int .i64 n)) 0 true)):=by
 rw[rG,A,jf,wm,cells_int,splice_one cs J,ax ⟨rfl,cK _,J,rfl⟩]
theorem WU{H:Hp}{r o:Nat}{cs:List AV}(A:H.get r=some (.cells cs 0 true))(J:o<cs.length)(b:Bool):zet Tryz.prog H 4 (.ptr r o) (.bool b)=some (H.set r (.cells (cs.set o (.bool b)) 0 true)):=by
 rw[rG,A,wE,wm,DS,splice_one cs J,ax ⟨rfl,cK _,J,rfl⟩]
def ur(l:List Int):AV:=if l=[]then .nilS else jk l
def lZ(H:Hp)(v:AV)(l:List Int)(lo:Nat):Prop:=(v=.nilS/\l=[])\/(l≠[]/\eN H v l lo)
theorem lZ.n{H:Hp}{v:AV}{l:List Int}{lo:Nat}(h:lZ H v l lo):eh H v l lo:=h.imp id fun h=>h.2
theorem lZ.keep{H H':Hp}{v:AV}{l:List Int}{lo:Nat}(h:lZ H v l lo)(m:H.next<=H'.next)(A:∀k,zdF v k->H'.get k=H.get k):lZ H' v l lo:=h.imp id fun h=>⟨h.1,h.2.keep m A⟩
theorem FI(H:Hp)(n:Nat):∀l:List Int,iceL (iceV H (n+1)) (l.map (.int .i64))=some (l.map (.int .i64))
 |[]=>rfl
 |a::l=>by
  have:=FI H n l;have e:iceV H (n+1) (.int .i64 a)=some (.int .i64 a):=rfl;simp only[dJ,iceL,e,this]
theorem eN.iceV{H:Hp}{v:AV}{l:List Int}{lo:Nat}(h:eN H v l lo)(n:Nat):iceV H (n+2) v=some (jk l):=by
 obtain⟨r,g,rfl,Z,_⟩:=h;have e:Ab.iceV H (n+2) (.sl r 0 l.length 1)=match H.get r with
  |some (.cells W _ _)=>match iceL (Ab.iceV H (n+1)) ((W.drop 0).take (l.length*1))with
   |some j=>if j.length=l.length*1 then some (.lst (zdP 1 l.length j))else none
   |none=>none
  |_=>none:=rfl
 rw[e,Z];simp only[dQ,gg];rw[ev aD,FI];simp only[cR,bT,AS]
theorem lZ.iceV{H:Hp}{v:AV}{l:List Int}{lo:Nat}(h:lZ H v l lo)(n:Nat):iceV H (n+2) v=some (ur l):=by
 rcases h with⟨rfl,rfl⟩|⟨o,h⟩
 .rfl
 .rw[h.iceV,ur,ah o]
theorem WV(n:Nat)(l:List Int):bE (n+2) (ur l)=jk l:=by
 unfold ur;split
 .rename_i h;subst h;rfl
 .show AV.lst ((l.map fun s=>[AV.int .i64 s]).map fun z=>z.map (bE (n+1)))=_;rw[oD];rfl
def tyEvB.tyF:=ad @cI (ad @bZ (ad @ll (ad @rT (ad @qa (@rV)))))
open tyEvB
noncomputable def sd:{c:SC // aA 47 (Tryz.f184.body.getD .skip)=c}:=by
 refine⟨?_,?_⟩;rotate_left
 .simp only[Tryz.f184,a3,aA,zcG,zcE,zcJ,zcK,Nat.blt,Nat.ble];rfl
theorem WW(l:List Int):(zdt l).all AV.one=true:=by
 rw[f9];intro x F;obtain⟨n,_,rfl⟩:=mB.1 F;rfl
theorem FJ{S:Nat->Prop}{H:Hp}:∀{vs:List AV}{W:List (List Int)},zcW (mT S H) vs W->vs.all AV.one=true
 |[],[],_=>rfl
 |v::vs,c::W,h=>by
  obtain⟨q,g,rfl,_⟩:=h.1;rw[mR,FJ h.2];rfl
theorem WX{H:Hp}{q imm:Nat}{l:List Int}(h:H.get q=some (.cells (zdt l) imm true))(Z:0<l.length)(h1:l.length<2^30):zdX Tryz.prog false H 33 33 .nilS (.sl q 0 l.length 1)=some (.sl H.next 0 l.length 1,H.alloc (.cells (zdt l) 0 true)):=by
 obtain⟨n,m⟩:∃n,l.length=n+1:=⟨l.length-1,ac⟩;have F:zer H 1 (.sl q 0 l.length 1)=some (n+1,zdt l):=by
  have:=lT (H:=H) (r:=q) (o:=0) (n:=l.length) (z:=1) (s:=1) h (by rw[dQ,iN,t7];omega);rw[this,dQ,ev (by rw[t7];omega),m]
 have:=append_nil (P:=Tryz.prog) (keep:=false) (H:=H) (t:=33) (u:=33) Tryz.underlying33 ub Ad Ae af F (WW l) rfl mQ mQ;rw[this,<-m]
theorem WY{H:Hp}{q imm:Nat}{vs:List AV}(h:H.get q=some (.cells vs imm true))(V:vs.all AV.one=true)(Z:0<vs.length)(h1:vs.length<2^30):zdX Tryz.prog false H 58 58 .nilS (.sl q 0 vs.length 1)=some (.sl H.next 0 vs.length 1,H.alloc (.cells vs 0 true)):=by
 obtain⟨n,m⟩:∃n,vs.length=n+1:=⟨vs.length-1,ac⟩;have F:zer H 1 (.sl q 0 vs.length 1)=some (n+1,vs):=by
  have:=lT (H:=H) (r:=q) (o:=0) (n:=vs.length) (z:=1) (s:=1) h Fh;rw[this,dQ,ev ac,m]
 have:=append_nil (P:=Tryz.prog) (keep:=false) (H:=H) (t:=58) (u:=58) Tryz.underlying58 ud Al Am af F V rfl mQ mQ;rw[this,<-m]
theorem FK{cs:List AV}{j:Nat}{v:AV}(h:j<cs.length):splice cs j [v]=cs.set j v:=by
 rw[Fj,ax h];simp[splice]
theorem FL{H:Hp}{q j:Nat}{l:List Int}(x:Int)(A:H.get q=some (.cells (zdt l) 0 true))(O:j<l.length):zet Tryz.prog H 2 (.ptr q j) (.int .i64 x)=some (H.set q (.cells (zdt (l.set j x)) 0 true)):=by
 rw[rG,A,ub];show(if 1=1/\0<=j/\j+1<=(zdt l).length/\[AV.int .i64 x].all AV.one=true then some (H.set q (.cells (splice (zdt l) j [.int .i64 x]) 0 true))else none)=_;refine(ax ⟨rfl,cK _,by rw[t7];omega,rfl⟩).trans ?_;rw[FK (by rw[t7];exact O)];simp only[zdt,nV]
theorem WZ{H:Hp}{q j:Nat}{vs:List AV}(a b c d:Nat)(A:H.get q=some (.cells vs 0 true))(O:j<vs.length):zet Tryz.prog H 33 (.ptr q j) (.sl a b c d)=some (H.set q (.cells (vs.set j (.sl a b c d)) 0 true)):=by
 rw[rG,A,ud];show(if 1=1/\0<=j/\j+1<=vs.length/\[AV.sl a b c d].all AV.one=true then some (H.set q (.cells (splice vs j [.sl a b c d]) 0 true))else none)=_;refine(ax ⟨rfl,cK _,ac,rfl⟩).trans ?_;rw[FK O]
theorem FM(a b c d e f:AV):zc6 6 [a,b,c,d,e,f]=some (.agg [a,b,c,d,e,f]):=rfl
section
variable {tb:List En} (hT:EvT tb) {H:Hp}
include hT
theorem W0{S:Nat->Prop}{v:AV}{s s2:S9}(hS:fK S H v s)(C:∀q,H.next<=q->S q){a i x:Int}(h:z0 s a i x=some s2):zcx Tryz.prog (zcq pls tb) 184 [v,.int .i64 a,.int .i64 i,.int .i64 x] H fun w H'=>fK S H' w s2/\Ext9 (fun _=>True) H H':=by
 have J:Plain (zcq pls tb) 184:=hT.plain db;have hkeep:(zcq pls tb).keep 184=false:=rfl;have O:=hS;have np:∀E:ao,zcp E (.const (.pointer none))=some .nilP:=fun _=>rfl;obtain⟨p,cv,ov,rfl,hp⟩:=hS;unfold z0 at h;split at h
 .rename_i ha;obtain⟨m,rfl⟩:∃m:Nat,a=m:=⟨a.toNat,ac⟩;rw[dL]at h;obtain⟨l,hl,F⟩:=ch.1 h;simp only[az]at F;obtain⟨q,imm,vs,q2,imm2,rfl,o,g,s1,s2',gq,z1,al,gv,s3,s4,g2,z2⟩:=FB hp.cells hl;have gp:=hp.get;have x1:=AQ (q:=q) o;clear h;by_cases h0:i<0
  .rw[ax (.inl h0)]at F;subst F;clear g;refine zcv (M:=47) (rs:=[.tmp 8]) (J.call _) J.ice J.froz Tryz.func184 rfl rfl sd.2 rfl ?_;dsimp only[sd,zcr,Nat.reduceAdd];repeat' (first
    |(apply zcl ?_;clear hK K)|apply Ry.o ?_|apply b7 ?_|(apply a8 (fun A I=>?_) (fun A I=>?_)<;>try(cases A;done))|(apply aB (fun z Z=>?_) (fun z Z=>?_)<;>try(cases z;done))|apply ak ?_|(apply zcm fun K hK=>?_)|apply zco ?_|apply am ?_)
   all_goals (refine⟨eI,_,eR,?_⟩;try simp only[zcn])
   exact⟨O,Ext9.refl _ _⟩
  obtain⟨j,rfl⟩:∃j:Nat,i=j:=⟨i.toNat,ac⟩;by_cases h1:(l.length:Int)<=j
  .rw[ax (.inr h1)]at F;subst F;clear g;refine zcv (M:=47) (rs:=[.tmp 8]) (J.call _) J.ice J.froz Tryz.func184 rfl rfl sd.2 rfl ?_;dsimp only[sd,zcr,Nat.reduceAdd];repeat' (first
    |(apply zcl ?_;clear hK K)|apply Ry.o ?_|apply b7 ?_|(apply a8 (fun A I=>?_) (fun A I=>?_)<;>try(cases A;done))|(apply aB (fun z Z=>?_) (fun z Z=>?_)<;>try(cases z;done))|apply ak ?_|(apply zcm fun K hK=>?_)|apply zco ?_|apply am ?_)
   all_goals (refine⟨eI,_,eR,?_⟩;try simp only[zcn])
   exact⟨O,Ext9.refl _ _⟩
  .rw[ah ac]at F;have x2:=AR (q:=H.next) (n:=l.length) (m:=j) ac;have ap1:=WX g2 ac z2;have st1:=FL (H:=H.alloc (.cells (zdt l) 0 true)) (q:=H.next) (j:=j) x ij ac;have y1:(p == H.next)=false:=zcD (by have:=hp.lt;omega);have y2:(p == H.next+1)=false:=zcD (by have:=hp.lt;omega);obtain⟨o1,o2⟩:=hp.out.one;clear g;refine zcv (M:=47) (rs:=[.tmp 8]) (J.call _) J.ice J.froz Tryz.func184 rfl rfl sd.2 rfl ?_;dsimp only[sd,zcr,Nat.reduceAdd];have gh0:=@FM;repeat' (first
    |(apply zcl ?_;clear hK K)|apply Ry.o ?_|apply b7 ?_|(apply a8 (fun A I=>?_) (fun A I=>?_)<;>try(cases A;done))|(apply aB (fun z Z=>?_) (fun z Z=>?_)<;>try(cases z;done))|apply ak ?_|(apply zcm fun K hK=>?_)|apply zco ?_|apply am ?_)
   generalize Y:Hp.set (Hp.alloc (Hp.set (H.alloc _) _ _) _) _ _=V;have nb:H.next+2<=V.next:=AG
   have kb:∀r,r<H.next->V.get r=H.get r:=fun r hr=>by
    rw[<-Y];simp only[aU,zcu,zcS,zcB,ah (show ¬r=H.next by omega),ah (show ¬r=H.next+1 by omega)]
   have gb0:V.get H.next=some (.cells (zdt (l.set j x)) 0 true):=by
    rw[<-Y];simp only[aU,zcu,zcS,zcB,ah (show ¬H.next=H.next+1 by omega),bT]
   have gb1:V.get (H.next+1)=some (.cells [.sl q 0 vs.length 1,ov,.int .i64 s.fuel,.int .i64 s.ed,.int .i64 s.code,.int .i64 s.last] 0 true):=by rw[<-Y,aU,ax db]
   clear Y st1 ap1;have ap2:=WY (H:=V) ((kb q s2').trans gq) (FJ al) ac z1;have x3:=AQ (q:=V.next) o;have st2:∀L:Hp,L.get V.next=some (.cells vs 0 true)->zet Tryz.prog L 33 (.ptr V.next m) (.sl H.next 0 l.length 1)=some (L.set V.next (.cells (vs.set m (.sl H.next 0 l.length 1)) 0 true)):=fun L A=>WZ _ _ _ _ A o
   have y3:(H.next+1 == V.next)=false:=zcD ac;have y4:(V.next == H.next+1)=false:=zcD ac;repeat' (first
    |(apply zcl ?_;clear hK K)|apply Rx.o ?_|apply b8 ?_|apply ak ?_|(apply zcm fun K hK=>?_)|apply zco ?_|apply am ?_)
   all_goals (refine⟨eI,_,eR,?_⟩;try simp only[zcn])
   generalize W:Hp.set _ V.next _=U
   have nc:V.next+1<=U.next:=by rw[<-W];exact aM _
   have kc:∀r,r<V.next->r≠H.next+1->U.get r=V.get r:=fun r hr h2=>by
    rw[<-W];simp only[aU,zcu,zcS,zcB,ah (show ¬r=V.next by omega),ah h2]
   have gc1:U.get (H.next+1)=some (.cells [.sl V.next 0 vs.length 1,ov,.int .i64 s.fuel,.int .i64 s.ed,.int .i64 s.code,.int .i64 s.last] 0 true):=by
    rw[<-W];simp only[aU,zcu,zcS,zcB,ah (show ¬H.next+1=V.next by omega),bT]
   have gc2:U.get V.next=some (.cells (vs.set m (.sl H.next 0 l.length 1)) 0 true):=by rw[<-W,aU,ax rfl]
   clear W;subst F;have E:Ext9 (fun _=>True) H U:=⟨ac,fun r _ h=>by rw[kc r ac ac];exact kb r h⟩;have ES:Ext9 S H U:=E.sub fun _ _ _=>trivial;refine⟨⟨H.next+1,_,_,rfl,⟨C _ ac,ac,gc1,.inr ⟨V.next,0,_,wS,C _ ac,ac,gc2,by rw[lW];exact z1,?_⟩,hp.out.keep ES⟩⟩,E⟩;exact zcW.set (al.mono fun a b h=>h.keep ES) ⟨H.next,0,wS,C _ (aM _),ac,by rw[kc _ ac ac];exact gb0,by rw[lW];exact z2⟩
 .cases h
end
end
section
structure Den9 (l:List Nd) (start:S9) (args:List Int) (D:List R9):Prop where
 len:D.length=l.length
 kids:∀(i:Nat) nd,l[i]?=some nd->∀k∈nd.kids,0<=k/\k<i
 ok:∀(i:Nat) nd,l[i]?=some nd->∃r,iy start args D nd=some r/\D[i]?=some r.known
structure Agr9 (res D:List R9):Prop where
 len:res.length=D.length
 ok:∀(j:Nat) r,res[j]?=some r->r.k=true->D[j]?=some r
theorem mX(Z:List R9)(i:Nat):zdC Z (i:Int)=Z[i]?:=by rw[zdC,ax ac,dL]
theorem wZ{Z:List R9}{k:Int}(o:0<=k)(h:k<Z.length):∃r,zdC Z k=some r:=by
 rw[zdC,ax o];exact⟨_,aO ac⟩
theorem Agr9.get{Z D:List R9}(h:Agr9 Z D){k:Int}{r:R9}(A:zdC Z k=some r)(j:r.k=true):zdC D k=some r:=by
 unfold zdC at A⊢;split at A
 .rename_i o;rw[ax o];exact h.ok _ _ A j
 .cases A
theorem FN{Z:List R9}:∀{ks:List Int},(∀k∈ks,0<=k/\k<Z.length)->∃k,lU Z ks=some k/\((k=-1/\∀j∈ks,∃r,zdC Z j=some r/\r.k=true)\/(k∈ks/\∃r,zdC Z k=some r/\r.k=false))
 |[],_=>⟨-1,rfl,.inl ⟨rfl,fun j O=>by cases O⟩⟩
 |c::ks,h=>by
  obtain⟨o,i⟩:=h c eW;obtain⟨r,hr⟩:=wZ o i;rw[lU,hr,d9];by_cases Y:r.k=true
  .rw[ax Y];obtain⟨k,e,g⟩:=FN (ks:=ks) fun k Y=>h k (e8 _ Y)
   refine⟨k,e,?_⟩;rcases g with⟨e,g⟩|⟨g,W⟩
   .exact .inl ⟨e,fun j O=>by
     rcases fk.1 O with rfl|O
     .exact⟨r,hr,Y⟩
     .exact g j O⟩
   .exact .inr ⟨e8 _ g,W⟩
  .rw[ah Y];exact⟨c,rfl,.inr ⟨eW,r,hr,tJ⟩⟩
theorem AT{Z:List R9}{n:Nd}{j:Nat}{r:R9}(h:eJ Z n j=some r):∃c,n.kids[j]?=some c/\zdC Z c=some r:=by
 unfold eJ at h;rw[ch]at h;exact h
theorem W1{Z D:List R9}(h:Agr9 Z D){n:Nd}(Y:∀j∈n.kids,∃r,zdC Z j=some r/\r.k=true)(j:Nat):eJ Z n j=eJ D n j:=by
 unfold eJ;cases O:n.kids[j]? with
 |none=>rfl
 |some c=>
  obtain⟨r,i,g⟩:=Y c (jL O);rw[d9,d9,i,h.get i g]
theorem W2{Z D:List R9}{start:S9}{args:List Int}{n:Nd}(W:n.op≠22)(h:∀j,eJ Z n j=eJ D n j):iy start args Z n=iy start args D n:=by
 have m:nP start Z n=nP start D n:=by unfold nP;simp only[h]
 unfold iy;rw[ah (c:=n.op=22) W,ah (c:=n.op=22) W];simp only[h,m]
theorem FO{l:List Nd}{start:S9}{args:List Int}{D Z:List R9}(hD:Den9 l start args D)(C:Agr9 Z D){i:Nat}{m:Nd}(o:l[i]?=some m):∃k,t8 Z m=some k/\((k=-1/\iy start args Z m=iy start args D m)\/(k∈m.kids/\∃r,zdC Z k=some r/\r.k=false)):=by
 obtain⟨r,hr,_⟩:=hD.ok i m o;have hlt:i<l.length:=by
  by_cases c:i<l.length
  .exact c
  .rw[fG ac]at o;cases o
 have F:∀k∈m.kids,0<=k/\k<Z.length:=fun k j=>by
  have:=hD.kids i m o k j;have:=C.len;have:=hD.len;omega
 have I:m.op≠22->∃k,lU Z m.kids=some k/\((k=-1/\iy start args Z m=iy start args D m)\/(k∈m.kids/\∃r,zdC Z k=some r/\r.k=false)):=fun W=>by
  obtain⟨k,e,h|h⟩:=FN F
  .exact⟨k,e,.inl ⟨h.1,W2 W (W1 C h.2)⟩⟩
  .exact⟨k,e,.inr h⟩
 unfold t8;by_cases h31:m.op=31
 .unfold iy at hr;rw[ah ac,ah ac,ax ac]at hr;cases hr
 rw[ah h31];by_cases W:m.op=22
 .rw[ax W];have hc:∀R,iy start args R m=(li R m).bind (zdC R):=fun R=>by
   unfold iy;rw[ah ac,ah ac,ah ac,ax W]
  rw[hc]at hr;obtain⟨k',Y,h2⟩:=ch.1 hr;have h1':=Y;unfold li at Y;obtain⟨zcN,g,O⟩:=ch.1 Y;obtain⟨c,M,h6⟩:=AT g;have J:=jL M;obtain⟨zct,V⟩:=wZ (F c J).1 (F c J).2;rw[M,d9,V,d9];by_cases j:zct.k=true
  .have e:=C.get V j;rw[h6]at e;cases e;have hs:li Z m=some k':=by
    unfold li eJ;rw[M,d9,V,d9];exact O
   have U:k'∈m.kids:=by
    split at O
    .exact jL O
    .exact jL O
   obtain⟨t,ht⟩:=wZ (F k' U).1 (F k' U).2;rw[ax j,hs,d9,ht,d9];by_cases L:t.k=true
   .rw[ax L];refine⟨-1,rfl,.inl ⟨rfl,?_⟩⟩;rw[hc,hc,hs,h1',d9,d9,ht,C.get ht L]
   .rw[ah L];exact⟨k',rfl,.inr ⟨U,t,ht,ki⟩⟩
  .rw[ah j];exact⟨c,rfl,.inr ⟨J,zct,V,by simpa using j⟩⟩
 rw[ah W];by_cases hg:m.op=27\/m.op=29\/m.op=30
 .rw[ax hg];have hc:∀R,iy start args R m=if m.op=30 then none else (nP start R m).bind fun s=>some ⟨false,0,some s⟩:=fun R=>by
   unfold iy;rw[ah ac,ah ac];by_cases K:m.op=30
   .rw[ax ac,ax K]
   .rw[ah ac,ah W,ah ac,ah ac,ah ac,ax ac,ah K]
  have K:m.op≠30:=fun e=>by rw[hc,ax e]at hr;cases hr
  rw[hc,ah K]at hr;obtain⟨s0,Y,h2⟩:=ch.1 hr;have hn:∀R,nP start R m=(eJ R m 0).bind fun r=>r.s.bind fun s=>if s.ed≠0 then some s else if m.op=27 then (eJ R m 1).bind fun a=>some (if a.v≠0 then s else {s with ed:=2,code:=m.imm})else (eJ R m 1).bind fun a=>some {s with out:=a.v::s.out}:=fun R=>by
   unfold nP;rw[ah ac];by_cases A:m.op=27
   .simp only[ah (show ¬m.op=28 by omega),ax A]
   .simp only[ah (show ¬m.op=28 by omega),ah A,ax (show m.op=29 by omega)]
  have h1n:=Y;rw[hn]at Y;obtain⟨zcN,g,O⟩:=ch.1 Y;obtain⟨s,M,h6⟩:=ch.1 O;obtain⟨c,V,h8⟩:=AT g;have J:=jL V;obtain⟨zct,h9⟩:=wZ (F c J).1 (F c J).2;have z:eJ Z m 0=some zct:=by unfold eJ;rw[V,d9,h9]
  rw[z,d9];by_cases j:zct.k=true
  .have e:=C.get h9 j;rw[h8]at e;cases e;rw[ax j,M,d9];by_cases he:s.ed≠0
   .rw[ax he];refine⟨-1,rfl,.inl ⟨rfl,?_⟩⟩;rw[hc,hc,ah K,hn,hn,g,z];simp only[d9,M,ax he];rw[ah K]
   .rw[ah he];exact I W
  .rw[ah j];exact I W
 rw[ah hg];exact I W
def jV(Z:List R9):List Int->Nat
 |[]=>0
 |k::l=>(match zdC Z k with
  |some r=>if r.k=true then 0 else 1
  |none=>0)+jV Z l
structure Le9 (a b:List R9):Prop where
 len:b.length=a.length
 ok:∀(j:Nat) r,a[j]?=some r->r.k=true->b[j]?=some r
theorem Le9.get{a b:List R9}(h:Le9 a b){k:Int}{r:R9}(A:zdC a k=some r)(j:r.k=true):zdC b k=some r:=by
 unfold zdC at A⊢;split at A
 .rename_i o;rw[ax o];exact h.ok _ _ A j
 .cases A
theorem Le9.refl(a:List R9):Le9 a a:=⟨rfl,fun _ _ h _=>h⟩
theorem Le9.trans{a b c:List R9}(h:Le9 a b)(h2:Le9 b c):Le9 a c:=⟨h2.len.trans h.len,fun j r e k=>h2.ok j r (h.ok j r e k) k⟩
theorem w1{a b:List R9}(h:Le9 a b):∀l,jV b l<=jV a l
 |[]=>aM _
 |k::l=>by
  have:=w1 h l;rw[jV,jV];cases F:zdC a k with
  |none=>
   have:zdC b k=none:=by
    unfold zdC at F⊢;split at F
    .rename_i o;rw[ax o];rw[Db]at F⊢;have:=h.len;omega
    .rename_i o;rw[ah o]
   rw[this];simpa using w1 h l
  |some r=>
   by_cases j:r.k=true
   .rw[h.get F j];simp only[j,bT];omega
   .simp only[ah j];split
    .split<;>omega
    .omega
theorem AU{a b:List R9}(h:Le9 a b){k:Int}{r r2:R9}(h1:zdC a k=some r)(h2:r.k=false)(o:zdC b k=some r2)(U:r2.k=true):∀{l:List Int},k∈l->jV b l<jV a l
 |c::l,M=>by
  rw[jV,jV];rcases fk.1 M with rfl|M
  .have:=w1 h l;rw[h1,o];simp only[h2,U,bT,cr,ck];omega
  .have:=AU h h1 h2 o U M;have:=w1 h [c];rw[jV,jV,jV,jV]at this;simp only[my]at this;omega
section
variable {l:List Nd} {start:S9} {args:List Int} {D:List R9}
def FP(l:List Nd)(start:S9)(args:List Int)(D:List R9)(i:Nat):Prop:=∀res,Agr9 res D->∃L,Agr9 L D/\(∃r,D[i]?=some r/\r.k=true/\L[i]?=some r)/\Le9 res L/\∀m (st:List Int) G,st.length+i<2^20->ja l start args m L st=some G->∃C,ja l start args C res ((i:Int)::st)=some G
theorem w4{Z:List R9}{i:Int}{r:R9}(h:zdC Z i=some r)(j:r.k=true)(m:Nat)(st:List Int):ja l start args (m+1) Z (i::st)=ja l start args m Z st:=by
 rw[ja,h,d9,ax j]
theorem W3(hD:Den9 l start args D){i:Nat}{nd:Nd}(F:l[i]?=some nd)(ih:∀j,j<i->FP l start args D j):∀u res,jV res nd.kids<=u->Agr9 res D->(∃r,res[i]?=some r/\r.k=false)->∃L,Agr9 L D/\(∃r,D[i]?=some r/\r.k=true/\L[i]?=some r)/\Le9 res L/\∀m (st:List Int) G,st.length+i<2^20->ja l start args m L st=some G->∃m',ja l start args m' res ((i:Int)::st)=some G:=by
 intro u;induction u with
 |zero=>
  intro res hu A ⟨r,hr,U⟩;obtain⟨k,e,h|⟨hm,r2,g,h3⟩⟩:=FO hD A F
  .obtain⟨V,h4,h5⟩:=hD.ok i nd F;have Y:=A.len;have I:i<res.length:=by
    by_cases c:i<res.length
    .exact c
    .rw[fG ac]at hr;cases hr
   have C:(res.set i V.known)[i]?=some V.known:=by rw[oB,ax rfl,ax I]
   have W:∀j,j≠i->(res.set i V.known)[j]?=res[j]?:=fun j O=>by rw[oB,ah (Ne.symm O)]
   refine⟨res.set i V.known,⟨by rw[lW];exact Y,fun j r' O Z=>?_⟩,⟨V.known,h5,rfl,C⟩,⟨wS,fun j r' O Z=>?_⟩,fun m st G hs hG=>⟨m+2,?_⟩⟩
   .by_cases c:j=i
    .subst c;rw[C]at O;cases O;exact h5
    .rw[W j c]at O;exact A.ok j r' O Z
   .by_cases c:j=i
    .subst c;rw[hr]at O;cases O;rw[U]at Z;cases Z
    .rw[W j c];exact O
   .rw[ja,mX,hr,d9,ah (by rw[U];simp),dL,F,d9,e,d9,ah ac,h.2,h4,d9];rw[w4 (r:=V.known) (by rw[mX];exact C) rfl];exact hG
  .have:=AU (l:=nd.kids) (b:=res.map fun r=>{r with k:=true}) (a:=res) ⟨aD,fun j r O Z=>by rw[dX,O];cases r;cases Z;rfl⟩ g h3 (r2:={r2 with k:=true}) (by
    unfold zdC at g⊢;split at g
    .rename_i h0;rw[ax h0,dX,g];rfl
    .cases g) rfl hm
   omega
 |succ u ihu=>
  intro res hu A hr;obtain⟨k,e,h|⟨hm,r2,g,h3⟩⟩:=FO hD A F
  .obtain⟨r,hr,U⟩:=hr;obtain⟨V,h4,h5⟩:=hD.ok i nd F;have Y:=A.len;have I:i<res.length:=by
    by_cases c:i<res.length
    .exact c
    .rw[fG ac]at hr;cases hr
   have C:(res.set i V.known)[i]?=some V.known:=by rw[oB,ax rfl,ax I]
   have W:∀j,j≠i->(res.set i V.known)[j]?=res[j]?:=fun j O=>by rw[oB,ah (Ne.symm O)]
   refine⟨res.set i V.known,⟨by rw[lW];exact Y,fun j r' O Z=>?_⟩,⟨V.known,h5,rfl,C⟩,⟨wS,fun j r' O Z=>?_⟩,fun m st G hs hG=>⟨m+2,?_⟩⟩
   .by_cases c:j=i
    .subst c;rw[C]at O;cases O;exact h5
    .rw[W j c]at O;exact A.ok j r' O Z
   .by_cases c:j=i
    .subst c;rw[hr]at O;cases O;rw[U]at Z;cases Z
    .rw[W j c];exact O
   .rw[ja,mX,hr,d9,ah (by rw[U];simp),dL,F,d9,e,d9,ah ac,h.2,h4,d9];rw[w4 (r:=V.known) (by rw[mX];exact C) rfl];exact hG
  .obtain⟨zdz,zdc⟩:=hD.kids i nd F k hm;obtain⟨j,rfl⟩:∃j:Nat,k=j:=⟨k.toNat,ac⟩;obtain⟨M,o,⟨q,q1,q2,q3⟩,z,hst⟩:=ih j ac res A;have hlt:=AU z g h3 (by rw[mX];exact q3) q2 hm;obtain⟨r,hr,U⟩:=hr;have K:∀m' (st:List Int) G,st.length<2^20->ja l start args m' res ((j:Int)::(i:Int)::st)=some G->∃m,ja l start args m res ((i:Int)::st)=some G:=fun m' st G hs hG=>⟨m'+1,by
    rw[ja,mX,hr,d9,ah (by rw[U];simp),dL,F,d9,e,d9,ax ac,ax hs];exact hG⟩
   have hex:∃zct,M[i]?=some zct:=by
    have:=z.len;have I:i<res.length:=by
     by_cases c:i<res.length
     .exact c
     .rw[fG ac]at hr;cases hr
    exact⟨_,aO ac⟩
   obtain⟨zct,J⟩:=hex;by_cases c1:zct.k=true
   .refine⟨M,o,⟨zct,o.ok i zct J c1,c1,J⟩,z,fun m st G hs hG=>?_⟩;obtain⟨zdY,e1⟩:=hst (m+1) ((i:Int)::st) G AH (by rw[w4 (r:=zct) (by rw[mX];exact J) c1];exact hG);exact K zdY st G ac e1
   .obtain⟨res2,hA2,hq,hle2,hst2⟩:=ihu M ac o ⟨zct,J,by simpa using c1⟩;refine⟨res2,hA2,hq,z.trans hle2,fun m st G hs hG=>?_⟩;obtain⟨zdY,e1⟩:=hst2 m st G hs hG;obtain⟨m2,e2⟩:=hst zdY ((i:Int)::st) G AH e1;exact K m2 st G ac e2
theorem FQ(L:Den9 l start args D):∀i,i<l.length->FP l start args D i:=by
 intro i;induction i using Nat.strongRecOn with
 |ind i ih=>
  intro C res I;have Z:∃zct,res[i]?=some zct:=⟨_,aO (by have:=I.len;have:=L.len;omega)⟩;obtain⟨zct,Y⟩:=Z;by_cases c1:zct.k=true
  .exact⟨res,I,⟨zct,I.ok i zct Y c1,c1,Y⟩,Le9.refl _,fun m st G K hG=>⟨m+1,by rw[w4 (r:=zct) (by rw[mX];exact Y) c1];exact hG⟩⟩
  .exact W3 L (aO C) (fun j O=>ih j O ac) _ res (aM _) I ⟨zct,Y,by simpa using c1⟩
theorem W4(L:Den9 l start args D):Agr9 (List.replicate l.length zfo) D:=⟨by rw[lX,L.len],fun j r O Z=>by
 rw[oM]at O;split at O
 .cases O;cases Z
 .cases O⟩
theorem FR{g:Gr}(Y:g.nodes.length<=2000)(Z:Den9 g.nodes start args D){i j:Nat}(C:g.state=i)(V:i<g.nodes.length)(J:g.value=j)(I:j<g.nodes.length){ri W:R9}{s:S9}(h1:D[i]?=some ri)(h2:ri.s=some s)(A:D[j]?=some W):∃n m,z4 n m g start args=some (lV s (if s.ed=0 then W.v else 0)):=by
 obtain⟨res,z,⟨r,o,q2,q3⟩,hle,K⟩:=FQ Z i V _ (W4 Z);rw[h1]at o;cases o;obtain⟨n,hn⟩:=K 1 [] res (by rw[jo];omega) (by rw[ja]);obtain⟨O,hA2,⟨r',U,p2,p3⟩,M,F⟩:=FQ Z j I _ z;rw[A]at U;cases U;obtain⟨m,hm⟩:=F 1 [] O (by rw[jo];omega) (by rw[ja]);refine⟨n,m,?_⟩;rw[z4,C,hn,d9,mX,q3,d9,h2,d9];by_cases L:s.ed=0
 .rw[ax L,ax L,J,hm,d9,mX,p3,d9]
 .rw[ah L,ah L]
end
def tyEvC.tyF:=ad @cI (ad @bZ (ad @lk (ad @d8 (ad @eY (ad @ju (ad @ll (ad @rT (ad @oH (ad @p9 (ad @qa (ad @rV (ad @qc (ad @rW (ad @qd (ad @qe (ad @qf (ad @EK (@FM))))))))))))))))))
open tyEvC
noncomputable def ly:{c:SC // aA 112 (Tryz.f153.body.getD .skip)=c}:=by
 refine⟨?_,?_⟩;rotate_left
 .simp only[Tryz.f153,a3,aA,zcG,zcE,zcJ,zcK,Nat.blt,Nat.ble];rfl
theorem Fr9.kid{c:Cx9}{H:Hp}{rows:List (List AV)}{Z:List R9}(Y:Fr9 c H rows Z){n:Nd}{j:Nat}{r:R9}(h:eJ Z n j=some r):∃(m:Nat) (F:AV),n.kids[j]?=some (m:Int)/\zdC Z m=some r/\m<Z.length/\iE c.S H F r.s/\zcU Tryz.prog 127 (.sl c.rp 0 Z.length 4) (.int .i64 (m:Int))=some (.ptr c.rp (m*4))/\∀H',Fr9 c H' rows Z->At9 c m r F H':=by
 obtain⟨k,i,g⟩:=AT h;obtain⟨m,rfl⟩:∃m:Nat,k=m:=⟨k.toNat,by obtain⟨_,o,_⟩:=Y.get g;omega⟩;obtain⟨F,a,b,d,e⟩:=Y.at g;exact⟨m,F,i,g,a,b,d,e⟩
theorem W5{S:Nat->Prop}{H:Hp}{v:AV}{l:List Int}(h:iW S H v l)(a:Int):zdK Tryz.prog 136 [(0,.int .i64 a),(1,v)]=some (.agg [.int .i64 a,v]):=by
 cases l with
 |nil=>rw[show v=.nilP from h];kernel_rfl
 |cons n l=>obtain⟨q,w,rfl,_⟩:=h;kernel_rfl
section
variable {tb:List En} (hT:EvT tb) {c:Cx9} {H:Hp} {rows:List (List AV)} {res:List R9}
include hT
theorem W6(O:Fr9 c H rows res){n:Nd}(hl:n.kids.length<2^30){s2:S9}(h:nP c.start res n=some s2):zcx Tryz.prog (zcq pls tb) 153 [.ptr c.xp 0,.agg n.cells] H fun w H'=>fK c.S H' w s2/\Ext9 (fun _=>True) H H':=by
 have J:Plain (zcq pls tb) 153:=hT.plain db;have np:∀E:ao,zcp E (.const (.pointer none))=some .nilP:=fun _=>rfl;obtain⟨i,g,L⟩:=n;simp only at hl;have ec:(Nd.mk i g L).cells=[.int .i64 i,.int .i64 g,.lst (L.map fun k=>[.int .i64 k])]:=rfl;rw[ec];have Z:=O.alloc (.cells [.int .i64 i,.int .i64 g,.lst (L.map fun k=>[.int .i64 k])] 0 true);have gx:=Z.x;unfold gQ at gx;have lx:=O.lx;have lr:=O.lr;have y0:(c.xp == H.next)=false:=zcD ac;have gn:(H.alloc (.cells [.int .i64 i,.int .i64 g,.lst (L.map fun k=>[.int .i64 k])] 0 true)).get H.next=some (.cells [.int .i64 i,.int .i64 g,.lst (L.map fun k=>[.int .i64 k])] 0 true):=ij
 have E1:Ext9 (fun _=>True) H (H.alloc (.cells [.int .i64 i,.int .i64 g,.lst (L.map fun k=>[.int .i64 k])] 0 true)):=⟨f7 _,fun q _ A=>fF⟩;unfold nP at h;simp only at h;by_cases c26:i=26
 .subst c26;simp only[bT,az]at h;subst h;have hst:=Z.st;refine zcv (M:=112) (rs:=[.tmp 4]) (J.call _) J.ice J.froz Tryz.func153 rfl rfl ly.2 rfl ?_;dsimp only[ly,zcr,Nat.reduceAdd];repeat' (first
   |(apply zcl ?_;clear hK K)|apply Ry.o ?_|(apply aB (fun z V=>?_) (fun z V=>?_)<;>try(cases z;done))|apply ak ?_|(apply zcm fun K hK=>?_)|apply am ?_)
  all_goals (refine⟨eI,_,eR,?_⟩;try simp only[zcn])
  exact⟨hst,E1⟩
 rw[ah c26]at h;obtain⟨r,h1,h⟩:=ch.1 h;obtain⟨s,h2,h⟩:=ch.1 h;obtain⟨m,sv,zdz,_,hm,ho,ix,hA⟩:=O.kid h1;simp only at zdz;rw[h2]at ho;have ho1:fK c.S (H.alloc (.cells [.int .i64 i,.int .i64 g,.lst (L.map fun k=>[.int .i64 k])] 0 true)) sv s:=wU ho (E1.sub fun _ _ _=>trivial);have a2:=(hA _ Z).l2;obtain⟨p,cv,ov,rfl,hp⟩:=ho1;have gp:=hp.get;obtain⟨p1,p2⟩:=hp.cells.one;obtain⟨p3,p4⟩:=hp.out.one;have plt:=hp.lt;rw[zcB]at plt;have y1:(p == H.next+1)=false:=zcD ac;have y2:(H.next == H.next+1)=false:=zcD ac;by_cases c28:i=28
 .subst c28;simp only[bT]at h;obtain⟨ra,h3,h⟩:=ch.1 h;obtain⟨rb,h4,h⟩:=ch.1 h;obtain⟨ma,sva,ka,_,hma,_,ixa,W⟩:=O.kid h3;obtain⟨mb,svb,kb,_,hmb,_,ixb,hAb⟩:=O.kid h4;have aa:=(W _ Z).l1;have ab:=(hAb _ Z).l1;simp only at ka kb;refine zcv (M:=112) (rs:=[.tmp 4]) (J.call _) J.ice J.froz Tryz.func153 rfl rfl ly.2 rfl ?_;dsimp only[ly,zcr,Nat.reduceAdd];repeat' (first
   |(apply zcl ?_;clear hK K)|apply Ry.o ?_|(apply aB (fun z V=>?_) (fun z V=>?_)<;>try(cases z;done))|apply ak ?_|(apply zcm fun K hK=>?_)|(apply zc4 3 [(3,12),(5,12),(7,12),(10,12)] fun K hK=>?_)|(apply zc4 5 [(2,25),(6,25),(8,25),(10,25),(13,25),(17,25),(19,25),(21,25),(24,25)] fun K hK=>?_)|(apply zcV ?_;try intro _)|(apply zc5 ?_ ?_<;>clear hK K)|apply bD ?_|apply zco ?_|fail)
  .exact eK
  refine bg rfl bh bj ?_;simp only[eM];refine a7 ?_ (W0 hT ⟨p,cv,ov,rfl,hp⟩ (fun q A=>Z.up q A) h);rintro v H4 ⟨hv,E4⟩;dsimp only[zcF];have F:=Z.keep E4.next fun q A=>E4.get q trivial A
  have gx4:=F.x;unfold gQ at gx4;have aa4:=(W _ F).l1;have ab4:=(hAb _ F).l1;have gn4:=(E4.get _ trivial (show H.next<(H.alloc _).next from cL _)).trans gn;have n4:=E4.next
  have hov:=hv.one;repeat' (first
   |apply Rx.o ?_|(apply zcV ?_;try intro _)|(apply zc5 ?_ ?_<;>clear hK K)|apply bD ?_|apply am ?_)
  .exact eK
  all_goals (refine⟨eI,_,eR,?_⟩;try simp only[zcn])
  exact⟨hv,E1.trans E4⟩
 rw[ah c28]at h;by_cases ce:s.ed=0
 .rw[ah ac]at h;by_cases c27:i=27
  .subst c27;rw[ax rfl]at h;obtain⟨ra,h3,h⟩:=ch.1 h;obtain⟨ma,sva,ka,_,hma,_,ixa,W⟩:=O.kid h3;have aa:=(W _ Z).l1;simp only at ka;simp only[az]at h;by_cases cv0:ra.v=0
   .rw[ah ac]at h;subst h;refine zcv (M:=112) (rs:=[.tmp 4]) (J.call _) J.ice J.froz Tryz.func153 rfl rfl ly.2 rfl ?_;dsimp only[ly,zcr,Nat.reduceAdd];repeat' (first
     |(apply zcl ?_;clear hK K)|apply Ry.o ?_|apply b7 ?_|(apply aB (fun z V=>?_) (fun z V=>?_)<;>try(cases z;done))|apply ak ?_|(apply zcm fun K hK=>?_)|(apply zc4 3 [(3,12),(5,12),(7,12),(10,12)] fun K hK=>?_)|(apply zc4 10 [(3,12),(5,12),(7,12),(10,12)] fun K hK=>?_)|(apply zc4 13 [(1,3),(1,5)] fun K hK=>?_)|(apply zcV ?_;try intro _)|(apply zc5 ?_ ?_<;>clear hK K)|apply bD ?_|apply zeS rfl ?_|apply ay ?_|apply zco ?_|apply am ?_)
    .exact eK
    .exact eK
    .exact eK
    all_goals (refine⟨eI,_,eR,?_⟩;try simp only[zcn])
    generalize Y:Hp.set _ (H.next+1) _=I;have nc:H.next+2<=I.next:=AG
    have gc:I.get (H.next+1)=some (.cells [cv,ov,.int .i64 s.fuel,.int .i64 2,.int .i64 g,.int .i64 s.last] 0 true):=by rw[<-Y,aU,ax rfl]
    have o:Ext9 (fun _=>True) (H.alloc (.cells [.int .i64 27,.int .i64 g,.lst (L.map fun k=>[.int .i64 k])] 0 true)) I:=⟨uj,fun r _ hr=>by
     rw[zcB]at hr;rw[<-Y];simp only[aU,zcu,zcB,ah (show ¬r=H.next+1 by omega)]⟩
    clear Y;exact⟨⟨H.next+1,cv,ov,rfl,⟨O.up _ ac,ac,gc,hp.cells.keep (o.sub fun _ _ _=>trivial),hp.out.keep (o.sub fun _ _ _=>trivial)⟩⟩,E1.trans o⟩
   .rw[ax cv0]at h;subst h;refine zcv (M:=112) (rs:=[.tmp 4]) (J.call _) J.ice J.froz Tryz.func153 rfl rfl ly.2 rfl ?_;dsimp only[ly,zcr,Nat.reduceAdd];repeat' (first
     |(apply zcl ?_;clear hK K)|apply Ry.o ?_|(apply aB (fun z V=>?_) (fun z V=>?_)<;>try(cases z;done))|apply ak ?_|(apply zcm fun K hK=>?_)|(apply zc4 3 [(3,12),(5,12),(7,12),(10,12)] fun K hK=>?_)|(apply zc4 10 [(3,12),(5,12),(7,12),(10,12)] fun K hK=>?_)|(apply zcV ?_;try intro _)|(apply zc5 ?_ ?_<;>clear hK K)|apply bD ?_|apply ay ?_|apply zco ?_|apply am ?_)
    .exact eK
    .exact eK
    all_goals (refine⟨eI,_,eR,?_⟩;try simp only[zcn])
    exact⟨⟨p,cv,ov,rfl,hp⟩,E1⟩
  rw[ah c27]at h;by_cases c29:i=29
  .subst c29;rw[ax rfl]at h;obtain⟨ra,h3,h⟩:=ch.1 h;obtain⟨ma,sva,ka,_,hma,_,ixa,W⟩:=O.kid h3;have aa:=(W _ Z).l1;simp only at ka;simp only[az]at h;subst h;refine zcv (M:=112) (rs:=[.tmp 4]) (J.call _) J.ice J.froz Tryz.func153 rfl rfl ly.2 rfl ?_;dsimp only[ly,zcr,Nat.reduceAdd];repeat' (first
    |(apply zcl ?_;clear hK K)|apply Ry.o ?_|apply b7 ?_|(apply aB (fun z V=>?_) (fun z V=>?_)<;>try(cases z;done))|apply ak ?_|(apply zcm fun K hK=>?_)|(apply zc4 3 [(3,12),(5,12),(7,12),(10,12)] fun K hK=>?_)|(apply zc4 17 [(3,18),(5,18),(7,18),(10,18),(14,18),(16,18)] fun K hK=>?_)|(apply zcV ?_;try intro _)|(apply zc5 ?_ ?_<;>clear hK K)|apply bD ?_|apply ay ?_|apply zco ?_|fail)
   .exact eK
   generalize j:Hp.set (Hp.alloc (H.alloc _) _) (H.next+1) _=U;have nb:H.next+2<=U.next:=AI
   have gb:U.get (H.next+1)=some (.cells [cv,ov,.int .i64 s.fuel,.int .i64 0,.int .i64 s.code,.int .i64 s.last] 0 true):=AJ;have EB:Ext9 (fun _=>True) (H.alloc (.cells [.int .i64 29,.int .i64 g,.lst (L.map fun k=>[.int .i64 k])] 0 true)) U:=⟨uj,fun r _ hr=>by
    rw[zcB]at hr;rw[<-j];simp only[aU,zcu,zcB,ah (show ¬r=H.next+1 by omega)]⟩
   clear j;have C:=Z.keep EB.next fun q A=>EB.get q trivial A
   have gxb:=C.x;unfold gQ at gxb;have aab:=(W _ C).l1;have gnb:=(EB.get _ trivial (show H.next<(H.alloc _).next from cL _)).trans gn;have gpb:=(EB.get _ trivial hp.lt).trans gp;have y3:(H.next+1 == U.next)=false:=zcD ac;have y4:(p == U.next)=false:=zcD ac;have y5:(H.next == U.next)=false:=zcD ac;have y6:(c.xp == U.next)=false:=zcD ac;have y7:(c.rp == U.next)=false:=zcD ac;have hbo:=W5 hp.out ra.v;have aabb:=(W _ (C.alloc (.cells [.int .i64 ra.v,ov] 0 true))).l1;repeat' (first
    |(apply zcl ?_;clear hK K)|apply Ry.o ?_|apply b7 ?_|apply ak ?_|(apply zcm fun K hK=>?_)|(apply zcV ?_;try intro _)|(apply zc5 ?_ ?_<;>clear hK K)|apply bD ?_|apply zeS rfl ?_|apply am ?_)
   .exact eK
   all_goals (refine⟨eI,_,eR,?_⟩;try simp only[zcn])
   generalize Y:Hp.set _ (H.next+1) _=I;have nc:U.next+1<=I.next:=AG
   have gc:I.get (H.next+1)=some (.cells [cv,.ptr U.next 0,.int .i64 s.fuel,.int .i64 0,.int .i64 s.code,.int .i64 s.last] 0 true):=by rw[<-Y,aU,ax rfl]
   have gd:I.get U.next=some (.cells [.int .i64 ra.v,ov] 0 true):=by
    rw[<-Y];simp only[aU,zcu,ah (show ¬U.next=H.next+1 by omega),bT]
   have o:Ext9 (fun _=>True) (H.alloc (.cells [.int .i64 29,.int .i64 g,.lst (L.map fun k=>[.int .i64 k])] 0 true)) I:=⟨uj,fun r _ hr=>by
    have hr2:=hr;rw[zcB]at hr2;rw[<-EB.get r trivial hr,<-Y];simp only[aU,zcu,ah (show ¬r=H.next+1 by omega),ah (show ¬r=U.next by omega)]⟩
   clear Y;refine⟨⟨H.next+1,cv,.ptr U.next 0,rfl,⟨O.up _ ac,ac,?_,hp.cells.keep (o.sub fun _ _ _=>trivial),⟨U.next,ov,rfl,O.up _ ac,ac,gd,hp.out.keep (o.sub fun _ _ _=>trivial)⟩⟩⟩,E1.trans o⟩;rw[gc,ce]
  .rw[ah c29]at h;cases h
 .rw[ax ce]at h;simp only[az]at h;subst h;refine zcv (M:=112) (rs:=[.tmp 4]) (J.call _) J.ice J.froz Tryz.func153 rfl rfl ly.2 rfl ?_;dsimp only[ly,zcr,Nat.reduceAdd];repeat' (first
   |(apply zcl ?_;clear hK K)|apply Ry.o ?_|(apply aB (fun z V=>?_) (fun z V=>?_)<;>try(cases z;done))|apply ak ?_|(apply zcm fun K hK=>?_)|(apply zc4 3 [(3,12),(5,12),(7,12),(10,12)] fun K hK=>?_)|(apply zcV ?_;try intro _)|(apply zc5 ?_ ?_<;>clear hK K)|apply bD ?_|apply zco ?_|apply am ?_)
  .exact eK
  all_goals (refine⟨eI,_,eR,?_⟩;try simp only[zcn])
  exact⟨⟨p,cv,ov,rfl,hp⟩,E1⟩
end
end
end Go.Proofs.YtljebeflbbgibaaGreat
