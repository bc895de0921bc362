/- Parts: R3a, EnX, EvR, Std, W6a, EvA, Strs, Ints, EvB, EvL, EvC. -/
import Derived.Test.YtljebeflbbgibaaGreatYCG
set_option linter.unusedSimpArgs false
set_option linter.unusedVariables false
set_option linter.unusedSectionVars false
set_option linter.defProp false
set_option maxHeartbeats 32000000
namespace Go.Ab
set_option maxRecDepth 20000
open Go
theorem Bk{P:Prop}(h:P:=by rw[List.drop_eq_getElem_cons Z];rfl):P:=h
theorem dt{P:Prop}(h:P:=by rfl):P:=h
theorem Bl{P:Prop}(h:P:=by rw[A r ⟨_,rfl⟩];exact Z):P:=h
theorem xB{P:Prop}(h:P:=by have:=List.length_pos_iff.2 M;omega):P:=h
theorem jm{P:Prop}(h:P:=by rw[i];omega):P:=h
theorem ik{P:Prop}(h:P:=by rw[zcY,if_pos rfl];rfl):P:=h
theorem lA{P:Prop}(h:P:=by simp only[zfq];omega):P:=h
theorem iJ{P:Prop}(h:P:=by rw[M];omega):P:=h
theorem mU{P:Prop}(h:P:=by show _<=70368744177664;omega):P:=h
theorem FY{P:Prop}(h:P:=by rw[List.drop_zero,List.length_take];omega):P:=h
theorem uP{P:Prop}(h:P:=by rw[<- A];exact Nat.le_refl _):P:=h
theorem sJ{P:Prop}(h:P:=by rw[<- o];exact Nat.le_refl _):P:=h
theorem xC{P:Prop}(h:P:=by rw[<- o,Hp.get_set,if_pos rfl]):P:=h
theorem xD{P:Prop}(h:P:=by rw[List.length_set]):P:=h
theorem Bm{P:Prop}(h:P:=by rw[List.length_cons];omega):P:=h
theorem uQ{P:Prop}(h:P:=by rw[zc6];omega):P:=h
theorem Bn{P:Prop}(h:P:=by rw[<- A,Hp.get_set,if_pos rfl]):P:=h
theorem sK{P:Prop}(h:P:=by simp only[zc3,Nat.reduceBEq, *];exact zeX (n:=s.length) ac ac):P:=h
def mV:=@List.all_cons
def oW:=@Bool.and_eq_false_iff
def mW:=@List.any_cons
def Bo:=@Bool.or_assoc
def FZ:=@List.drop_length_add_append
def j3:=@Prod.ext
def cH:=@List.getD_eq_getElem?_getD
def qI:=@List.replicate_succ
def F0:=@List.set_eq_take_append_cons_drop
def n0:=@List.map_set
def kK:=@List.length_set
def ej:=@Option.bind_some
def jn:=@List.length_replicate
def mX:=@List.getElem?_replicate
end Go.Ab
namespace Go.Proofs.YtljebeflbbgibaaGreat
set_option maxRecDepth 20000
open Go Go.Ab
section
def tyR3a.tyF:=ad @b7 (ad @dz (ad @jZ (ad @uI (ad @ii (ad @mP (ad @jY (ad @iG (ad @gC (ad @mQ (ad @cP (@iH)))))))))))
open tyR3a
theorem zed(f:FuncId):Plain (zcW pls []) f:=⟨fun _=>rfl,rfl,rfl⟩
theorem zdO{l:List En}{f:FuncId}(h1:∀args,zdS l f args=none)(h2:iF l f=false):Plain (zcW pls l) f:=⟨h1,h2,rfl⟩
noncomputable def F2:{c:SC // aB 21 (Tryz.f95.body.getD .skip)=c}:=by
 refine⟨?_,?_⟩;rotate_left
 .simp only[Tryz.f95,a8,aB,zda,zc9,zdc,zdd,Nat.blt,Nat.ble];rfl
noncomputable def F8:{c:SC // aB 9 (Tryz.f96.body.getD .skip)=c}:=by
 refine⟨?_,?_⟩;rotate_left
 .simp only[Tryz.f96,a8,aB,zda,zc9,zdc,zdd,Nat.blt,Nat.ble];rfl
noncomputable def F9:{c:SC // aB 34 (Tryz.f58.body.getD .skip)=c}:=by
 refine⟨?_,?_⟩;rotate_left
 .simp only[Tryz.f58,a8,aB,zda,zc9,zdc,zdd,Nat.blt,Nat.ble];rfl
noncomputable def Ga:{c:SC // aB 18 (Tryz.f59.body.getD .skip)=c}:=by
 refine⟨?_,?_⟩;rotate_left
 .simp only[Tryz.f59,a8,aB,zda,zc9,zdc,zdd,Nat.blt,Nat.ble];rfl
noncomputable def Gb:{c:SC // aB 10 (Tryz.f29.body.getD .skip)=c}:=by
 refine⟨?_,?_⟩;rotate_left
 .simp only[Tryz.f29,a8,aB,zda,zc9,zdc,zdd,Nat.blt,Nat.ble];rfl
theorem WM(ρ:Nat->Int)(n:Int):bh Tryz.prog ρ 95 [.int .u8 n] (.bool (lz n)):=zdZ fit (pls:=pls) (l:=[]) trivial (.cons (.int _ _) .nil) (.bool _) (by
 have J:=zed 95;refine zf (M:=21) (rs:=[.tmp 2]) (J.call _) J.ice J.froz Tryz.func95 rfl rfl F2.2 rfl ?_;dsimp only[F2,zcX,Nat.reduceAdd];repeat' (first
  |(apply zcP ?_;clear hK K)|apply Rx.o ?_|apply qG ?_|(apply bW (fun A I=>?_) (fun A I=>?_)<;>try(cases A;done))|apply ak ?_|(apply zcQ fun K hK=>?_)|apply am ?_)
 all_goals (refine⟨zcT,_,zcU,?_⟩;try simp only[zcS])
 all_goals (simp_all[lz]<;>omega))
theorem WN(ρ:Nat->Int)(n:Int):bh Tryz.prog ρ 96 [.int .u8 n] (.bool (j0 n)):=zdZ fit (pls:=pls) (l:=[]) trivial (.cons (.int _ _) .nil) (.bool _) (by
 have J:=zed 96;refine zf (M:=9) (rs:=[.tmp 2]) (J.call _) J.ice J.froz Tryz.func96 rfl rfl F8.2 rfl ?_;dsimp only[F8,zcX,Nat.reduceAdd];repeat' (first
  |(apply zcP ?_;clear hK K)|apply Rx.o ?_|(apply bW (fun A I=>?_) (fun A I=>?_)<;>try(cases A;done))|apply ak ?_|(apply zcQ fun K hK=>?_)|apply am ?_)
 all_goals (refine⟨zcT,_,zcU,?_⟩;try simp only[zcS])
 all_goals (simp_all[j0]<;>omega))
def qJ(n:Int):List AV:=[.int .u8 n]
theorem Gc(x y:Int)(h:qJ x=qJ y):x=y:=by simpa [qJ]using h
noncomputable def uR:En:=⟨95,false,b0 (fun _=>True) qJ fun n=>.bool (lz n)⟩
noncomputable def uS:En:=⟨96,false,b0 (fun _=>True) qJ fun n=>.bool (j0 n)⟩
theorem WO(ρ:Nat->Int):zdF Tryz.prog ρ uR:=zdM fun n _=>WM ρ n
theorem WP(ρ:Nat->Int):zdF Tryz.prog ρ uS:=zdM fun n _=>WN ρ n
theorem WQ(ρ:Nat->Int)(s:List UInt8)(hs:s.length<2^60):bh Tryz.prog ρ 58 [.str s] (.bool (i6 s)):=zdZ fit (pls:=pls) (l:=[uR,uS]) ⟨WO ρ,WP ρ,trivial⟩ (.cons (.str _) .nil) (.bool _) (by
 have F:Plain (zcW pls [uR,uS]) 58:=zdO (fun _=>rfl) rfl;have kl:∀(n:Int) (H:Hp),zc2 Tryz.prog (zcW pls [uR,uS]) 95 [.int .u8 n] H fun v H'=>v=.bool (lz n)/\H'=H:=fun n H=>zdW (enc:=qJ) (out:=fun n=>.bool (lz n)) Gc (x:=n) rfl trivial;have kd:∀(n:Int) (H:Hp),zc2 Tryz.prog (zcW pls [uR,uS]) 96 [.int .u8 n] H fun v H'=>v=.bool (j0 n)/\H'=H:=fun n H=>zdW (enc:=qJ) (out:=fun n=>.bool (j0 n)) Gc (x:=n) rfl trivial;refine zf (M:=34) (rs:=[.tmp 2]) (F.call _) F.ice F.froz Tryz.func58 rfl rfl F9.2 rfl ?_;dsimp only[F9,zcX,Nat.reduceAdd];repeat' (first
  |(apply zcP ?_;clear hK K)|apply Rx.o ?_|apply ak ?_|(apply zcQ fun K hK=>?_)|apply ax ?_|fail)
 refine zdN [0] [] 3 s.length (fun i E H=>jh s=i+jh (s.drop i)/\(0<i->∀b,s[0]?=some b->j0 b.toNat=false)) eE aE ?_;rintro i E H2 hi J j m hsI ⟨g,O⟩;(try simp only[zdh,zdb,a1,zc3,zde,Nat.reduceBEq, *]at J);(try simp only[zdb, *]at j);(try simp only[zdK,]at m);repeat' (first
  |(apply zcP ?_;clear hK K)|apply Rx.o ?_|(apply bW (fun A Z=>?_) (fun A Z=>?_)<;>try(cases A;done))|(apply aU (fun W Y=>?_) (fun W Y=>?_)<;>try(cases W;done))|apply ak ?_|(apply zcQ fun K hK=>?_)|apply ax ?_|apply zcR ?_|apply am ?_|apply zc4 ?_)
 .have L:i<s.length:=by simpa using W
  have C:s[i]?=some s[i]:=aO L;have U:jh (s.drop i)=if iI s[i]then jh (s.drop (i+1))+1 else 0:=by rw[eJ L,jh]
  repeat' (first
   |(apply zcP ?_;clear hK K)|apply Rx.o ?_|(apply i5 ?_;first|refine Rx.k (kl _ _) ?_|refine Rx.k (kd _ _) ?_)|apply qG ?_|(apply bW (fun A Z=>?_) (fun A Z=>?_)<;>try(cases A;done))|(apply aU (fun W Y=>?_) (fun W Y=>?_)<;>try(cases W;done))|apply ak ?_|(apply zcQ fun K hK=>?_)|apply zcR ?_|apply am ?_|fail)
  .all_goals (refine⟨zcT,_,zcU,?_⟩;try simp only[zcS])
   have z:i=0:=ac;subst z;unfold i6;cases s<;>simp_all
  .refine⟨ac,eL,eL,eN,sK,?_⟩;have I:iI s[i]=true:=by simp_all[iI]
   refine⟨by rw[g,U,I];simp;omega,fun _ b V=>O ac b V⟩
  .all_goals (refine⟨zcT,_,zcU,?_⟩;try simp only[zcS])
   have I:iI s[i]=false:=by simp_all[iI]
   rw[I]at U;simp at U;unfold i6;simp[show ¬jh s=s.length by omega]
  .refine⟨ac,eL,eL,eN,sK,?_⟩;have I:iI s[i]=true:=by simp_all[iI]
   refine⟨by rw[g,U,I];simp;omega,fun _ b V=>?_⟩;by_cases h0:0<i
   .exact O h0 b V
   .have z:i=0:=by omega
    subst z;rw[C]at V;have:s[0]=b:=r8;subst this;have o:lz s[0].toNat=true:=by simp_all
    simp only[lz,j0]at *;simp only[nP,kE]at o;simp only[oW,jG];omega
 all_goals
  have hie:i=s.length:=ac;all_goals (refine⟨zcT,_,zcU,?_⟩;try simp only[zcS])
  rw[hie]at g;simp[jh]at g;unfold i6;cases s<;>simp_all<;>omega)
def zdi(l:List (List UInt8))(s:List UInt8):Bool:=l.any fun x=>decide (x=s)
def Bp(op:Int):Bool:=decide (4<=op)&&decide (op<=18)
def zeroE(x:Ex):Bool:=decide (x.kind=0)&&decide (x.n=0)&&decide (x.name=[])&&decide (x.op=0)&&decide (x.kids.length=0)
def jo:List Fu->List UInt8->Int->Int
 |[],_,_=>-1
 |f::l,s,i=>if f.name=s then i else jo l s (i+1)
def j4:List (List UInt8):=[[97,114,114,97,121],[102,117,110,99],[118,97,114],[114,101,116,117,114,110],[105,102],[101,108,115,101],[119,104,105,108,101],[111,117,116],[116,114,97,112]]
theorem Gd(s:List UInt8):zdi j4 s=oV s:=by
 simp only[zdi,j4,oV,mW,List.any_nil,jH,<-Bo];simp only[eq_comm]
theorem WR(H:Hp)(a b c d e f g h i:List UInt8):zej Tryz.prog H 100 9 [(0,.str a),(1,.str b),(2,.str c),(3,.str d),(4,.str e),(5,.str f),(6,.str g),(7,.str h),(8,.str i)]=some (.sl H.next 0 9 1,H.alloc (.cells ([a,b,c,d,e,f,g,h,i].map .str) 0 true)):=af
theorem WS(ρ:Nat->Int)(s:List UInt8):bh Tryz.prog ρ 59 [.str s] (.bool (oV s)):=zdZ fit (pls:=pls) (l:=[]) trivial (.cons (.str _) .nil) (.bool _) (by
 have J:=zed 59;refine zf (M:=18) (rs:=[.tmp 2]) (J.call _) J.ice J.froz Tryz.func59 rfl rfl Ga.2 rfl ?_;dsimp only[Ga,zcX,Nat.reduceAdd];have O:=@WR;repeat' (first
  |(apply zcP ?_;clear hK K)|apply Rx.o ?_|apply ak ?_|(apply zcQ fun K hK=>?_)|apply ax ?_|fail)
 refine zdN [0,3] [0] 4 9 (fun i E H=>zdi j4 s=zdi (j4.drop i) s) eE aE ?_;rintro i E Y hi W j m o g;(try simp only[zdh,zdb,a1,zc3,zde,Nat.reduceBEq, *]at W);(try simp only[zdh,zdb,a1,zc3,zde, *]at j);(try simp only[zc6,zdK,bz]at m);have L:(0 == Y.next)=false:=zc7 ac;have I:(Y.next == 0)=false:=zc7 ac;change Y.get 0=some (.cells (j4.map .str) 0 true)at j;have F:j4.length=9:=rfl;repeat' (first
  |(apply zcP ?_;clear hK K)|apply Rx.o ?_|(apply aU (fun z V=>?_) (fun z V=>?_)<;>try(cases z;done))|apply ak ?_|(apply zcQ fun K hK=>?_)|apply ax ?_|apply zcR ?_|apply am ?_|apply zc4 ?_)
 .have Z:i<j4.length:=by omega
  have C:j4[i]?=some j4[i]:=aO Z;have U:zdi (j4.drop i) s=(decide (j4[i]=s)||zdi (j4.drop (i+1)) s):=Bk;have A:decide (i<9)=true:=cp;repeat' (first
   |(apply zcP ?_;clear hK K)|apply Ry.o ?_|(apply az (fun z V=>?_) (fun z V=>?_)<;>try(cases z;done))|apply ak ?_|(apply zcQ fun K hK=>?_)|apply zcR ?_|apply am ?_|fail)
  .all_goals (refine⟨zcT,_,zcU,?_⟩;try simp only[zcS])
   rw[<-Gd,g,U];simp_all
  .refine⟨ac,(by simp only[zdh,zdb,a1,zc3,zde,Nat.reduceBEq,j4, *]),(by simp only[zdh,zdb,a1,zc3,zde,j4, *]),eN,(by simp only[zc3,Nat.reduceBEq, *];exact zeX (n:=9) ac ac),?_⟩;rw[g,U];simp_all
 .all_goals (refine⟨zcT,_,zcU,?_⟩;try simp only[zcS])
  rw[<-Gd,g,show i=9 by omega];rfl)
def kL(s:List UInt8):List AV:=[.str s]
theorem sL(x y:List UInt8)(h:kL x=kL y):x=y:=by simpa [kL]using h
noncomputable def uT:En:=⟨58,false,b0 (fun s=>s.length<2^60) kL fun s=>.bool (i6 s)⟩
noncomputable def uU:En:=⟨59,false,b0 (fun _=>True) kL fun s=>.bool (oV s)⟩
theorem WT(ρ:Nat->Int):zdF Tryz.prog ρ uT:=zdM fun s K=>WQ ρ s K
theorem WU(ρ:Nat->Int):zdF Tryz.prog ρ uU:=zdM fun s _=>WS ρ s
theorem WV(ρ:Nat->Int)(s:List UInt8)(Z:s.length<2^60):bh Tryz.prog ρ 29 [.str s] (.bool (zdC s)):=zdZ fit (pls:=pls) (l:=[uT,uU]) ⟨WT ρ,WU ρ,trivial⟩ (.cons (.str _) .nil) (.bool _) (by
 have J:Plain (zcW pls [uT,uU]) 29:=zdO (fun _=>rfl) rfl;have F:∀(H:Hp),zc2 Tryz.prog (zcW pls [uT,uU]) 58 [.str s] H fun v H'=>v=.bool (i6 s)/\H'=H:=fun H=>zdW (enc:=kL) (out:=fun n=>.bool (i6 n)) sL (x:=s) rfl Z;have U:∀(H:Hp),zc2 Tryz.prog (zcW pls [uT,uU]) 59 [.str s] H fun v H'=>v=.bool (oV s)/\H'=H:=fun H=>zdW (enc:=kL) (out:=fun n=>.bool (oV n)) sL (x:=s) rfl trivial;refine zf (M:=10) (rs:=[.tmp 2]) (J.call _) J.ice J.froz Tryz.func29 rfl rfl Gb.2 rfl ?_;dsimp only[Gb,zcX,Nat.reduceAdd];repeat' (first
  |(apply zcP ?_;clear hK K)|apply Rx.o ?_|(apply i5 ?_;first|refine Rx.k (F _) ?_|refine Rx.k (U _) ?_)|(apply bW (fun A I=>?_) (fun A I=>?_)<;>try(cases A;done))|apply ak ?_|(apply zcQ fun K hK=>?_)|apply am ?_)
 all_goals (refine⟨zcT,_,zcU,?_⟩;try simp only[zcS])
 all_goals (simp_all[zdC]))
end
section
def jp:Nat->AV->Bool
 |0,_=>false
 |n+1,v=>match v with
  | .sl _ _ _ _=>true
  | .agg W=>W.any (jp n)
  |_=>false
theorem xE{S:Nat->Prop}{H:Hp}{n m k:Nat}(ih:∀{v u:AV},zdI S n H v u->jp m (bF k v)=false->bF k u=bF k v):∀{W F:List AV},zdo (zdI S n H) W F->(W.map (bF k)).any (jp m)=false->F.map (bF k)=W.map (bF k)
 |[],[],_,_=>rfl
 |c::W,d::F,h,h2=>by
  simp only[dO,mW,lb]at h2;rw[dO,dO,ih h.1 h2.1,xE ih h.2 h2.2]
theorem Bq{S:Nat->Prop}{H:Hp}:∀(n m k:Nat) {v u:AV},n<=m->zdI S n H v u->jp m (bF k v)=false->bF k u=bF k v
 |0,_,_,_,_,_,h,_=>h.elim
 |n+1,0,_,_,_,h,_,_=>by omega
 |n+1,m+1,k,v,u,hm,h,h2=>by
  cases v with
  |sl r o l z=>cases k<;>simp[bF,jp]at h2
  |agg W=>
   obtain⟨F,Y,rfl⟩:=h;cases k with
   |zero=>
    have e:∀v,bF 0 v=v:=fun v=>by cases v<;>rfl
    have Z:(W.map (bF 0)).any (jp m)=false:=by
     rw[show W.map (bF 0)=W by rw[show bF 0=id from funext e,List.map_id]];simpa [bF,jp]using h2
    have:=xE (k:=0) (fun U i=>Bq n m 0 ac U i) Y Z;rw[show bF 0=id from funext e,List.map_id,List.map_id]at this;rw[this]
   |succ k=>
    have Z:(W.map (bF k)).any (jp m)=false:=by simpa [bF,jp]using h2
    show AV.agg (F.map (bF k))=AV.agg (W.map (bF k));rw[xE (fun U i=>Bq n m k ac U i) Y Z]
  |_=>obtain⟨_,rfl⟩:=h;rfl
theorem sM{l:List En}{fn:FuncId}{M:Type}{ok:M->Prop}{enc:M->List AV}{out:M->AV}(J:∀x y,enc x=enc y->x=y)(I:∀z,zdS l fn z=b0 ok enc out (z.map (bF 60)))(Z:iF l fn=true)(C:∀y,(enc y).any (jp 90)=false){x:M}(F:ok x){S:Nat->Prop}{n:Nat}(o:n<=90){H:Hp}{args us:List AV}(h1:zdo (zdI S n H) args us)(h2:us.map (bF 60)=enc x):
 zc2 Tryz.prog (zcW pls l) fn args H fun v H'=>v=out x/\Icy S H H':=by
 by_cases hd:∃y,ok y/\enc y=args.map (bF 60)
 .obtain⟨y,_,e⟩:=hd;have W:us.map (bF 60)=args.map (bF 60):=xE (m:=90) (fun U i=>Bq n 90 60 o U i) h1 (by rw[<-e];exact C y);refine aZ ?_ (AL (r:=out x) (by show zdS l fn args=_;rw[I,<-W,h2];exact AK J F));rintro v H' ⟨rfl,rfl⟩;exact⟨rfl,Icy.refl _ _⟩
 .obtain⟨H',U,i⟩:=zdI.iceL (n:=100) (l:=args) (m:=us) (zdo.mono (fun a b k=>zdI.up k ac) h1);refine Ep (r:=out x) ?_ Z rfl U ?_ ⟨rfl,i⟩
  .show zdS l fn args=none;rw[I];exact EU fun y Y e=>hd ⟨y,Y,e⟩
  .show zdS l fn us=_;rw[I,h2];exact AK J F
theorem Br{P:Program}{cfg:Cfg}{f N:Nat}{a:SC}{E:aw}{H:Hp}{Q:AX->aw->Hp->Prop}(F:aw->Hp->Prop)(h1:zdr P cfg f N a E H fun x E' H'=>x=.normal/\F E' H')(h2:∀E' H',F E' H'->Q .normal E' H'):zdr P cfg f N a E H Q:=
 zdr.mono (fun x E' H' h=>by obtain⟨rfl,h⟩:=h;exact h2 E' H' h) h1
structure Ext9 (S:Nat->Prop) (H H':Hp):Prop where
 next:H.next<=H'.next
 get:∀q,S q->q<H.next->H'.get q=H.get q
theorem Ext9.refl(S:Nat->Prop)(H:Hp):Ext9 S H H:=⟨aM _,fun _ _ _=>rfl⟩
theorem Ext9.trans{S:Nat->Prop}{a b c:Hp}(h:Ext9 S a b)(k:Ext9 S b c):Ext9 S a c:=⟨eP h.next k.next,fun q i g=>(k.get q i (gk g h.next)).trans (h.get q i g)⟩
theorem Ext9.sub{S T:Nat->Prop}{a b:Hp}(h:Ext9 T a b)(K:∀q,q<a.next->S q->T q):Ext9 S a b:=⟨h.next,fun q i g=>h.get q (K q g i) g⟩
def mY(S:Nat->Prop)(H:Hp)(v:AV)(l:List Int):Prop:=∃q g,v=.sl q 0 l.length 1/\S q/\q<H.next/\H.get q=some (.cells (zdX l) g true)/\l.length<2^30
def mZ(S:Nat->Prop)(H:Hp)(v:AV)(cs:List (List Int)):Prop:=(cs=[]/\v=.nilS)\/∃q g vs,v=.sl q 0 vs.length 1/\S q/\q<H.next/\H.get q=some (.cells vs g true)/\vs.length<2^30/\zdo (mY S H) vs cs
def i7(S:Nat->Prop)(H:Hp):AV->List Int->Prop
 |v,[]=>v=.nilP
 |v,n::l=>∃q w,v=.ptr q 0/\S q/\q<H.next/\H.get q=some (.cells [.int .i64 n,w] 0 true)/\i7 S H w l
structure St9 (S:Nat->Prop) (H:Hp) (p:Nat) (cv ov:AV) (s:S9):Prop where
 own:S p
 lt:p<H.next
 get:H.get p=some (.cells [cv,ov,.int .i64 s.fuel,.int .i64 s.ed,.int .i64 s.code,.int .i64 s.last] 0 true)
 cells:mZ S H cv s.cells
 out:i7 S H ov s.out
def fP(S:Nat->Prop)(H:Hp)(v:AV)(s:S9):Prop:=∃p cv ov,v=.ptr p 0/\St9 S H p cv ov s
def iK(S:Nat->Prop)(H:Hp)(v:AV):Option S9->Prop
 |none=>v=.nilP
 |some s=>fP S H v s
def l3(S:Nat->Prop)(H:Hp)(row:List AV)(r:R9):Prop:=∃J,row=[.bool r.k,.int .i64 r.v,J,.nilP]/\iK S H J r.s
theorem mY.keep{S:Nat->Prop}{H H':Hp}{v:AV}{l:List Int}(h:mY S H v l)(k:Ext9 S H H'):mY S H' v l:=by
 obtain⟨q,g,e,i,Z,m,U⟩:=h;exact⟨q,g,e,i,gk Z k.next,by rw[k.get q i Z];exact m,U⟩
theorem mZ.keep{S:Nat->Prop}{H H':Hp}{v:AV}{l:List (List Int)}(h:mZ S H v l)(k:Ext9 S H H'):mZ S H' v l:=by
 rcases h with h|⟨q,g,vs,e,i,Z,m,U,Y⟩
 .exact .inl h
 .exact .inr ⟨q,g,vs,e,i,gk Z k.next,by rw[k.get q i Z];exact m,U,Y.mono fun a b h=>h.keep k⟩
theorem i7.keep{S:Nat->Prop}{H H':Hp}(k:Ext9 S H H'):∀{l:List Int}{v:AV},i7 S H v l->i7 S H' v l
 |[],_,h=>h
 |n::l,_,⟨q,w,e,h1,h2,h3,h4⟩=>⟨q,w,e,h1,gk h2 k.next,by rw[k.get q h1 h2];exact h3,i7.keep k h4⟩
theorem St9.keep{S:Nat->Prop}{H H':Hp}{p:Nat}{cv ov:AV}{s:S9}(h:St9 S H p cv ov s)(k:Ext9 S H H'):St9 S H' p cv ov s:=
 ⟨h.own,gk h.lt k.next,by rw[k.get p h.own h.lt];exact h.get,h.cells.keep k,h.out.keep k⟩
theorem fP.keep{S:Nat->Prop}{H H':Hp}{v:AV}{s:S9}(h:fP S H v s)(k:Ext9 S H H'):fP S H' v s:=by
 obtain⟨p,cv,ov,e,h⟩:=h;exact⟨p,cv,ov,e,h.keep k⟩
def xF:=@fP.keep
theorem iK.keep{S:Nat->Prop}{H H':Hp}{v:AV}:∀{s:Option S9},iK S H v s->Ext9 S H H'->iK S H' v s
 |none,h,_=>h
 |some _,h,k=>xF h k
theorem l3.keep{S:Nat->Prop}{H H':Hp}{row:List AV}{r:R9}(h:l3 S H row r)(k:Ext9 S H H'):l3 S H' row r:=by
 obtain⟨J,e,h⟩:=h;exact⟨J,e,h.keep k⟩
theorem i7.one{S:Nat->Prop}{H:Hp}{v:AV}:∀{l:List Int},i7 S H v l->AV.one v=true/\v.cells=[v]
 |[],h=>by rw[show v=.nilP from h];exact⟨rfl,rfl⟩
 |n::l,h=>by obtain⟨q,w,rfl,_⟩:=h;exact⟨rfl,rfl⟩
theorem mZ.one{S:Nat->Prop}{H:Hp}{v:AV}{l:List (List Int)}(h:mZ S H v l):AV.one v=true/\v.cells=[v]:=by
 rcases h with⟨_,rfl⟩|⟨q,g,vs,rfl,_⟩<;>exact⟨rfl,rfl⟩
theorem fP.one{S:Nat->Prop}{H:Hp}{v:AV}{s:S9}(h:fP S H v s):AV.one v=true:=by
 obtain⟨p,cv,ov,rfl,_⟩:=h;rfl
theorem iK.one{S:Nat->Prop}{H:Hp}{v:AV}:∀{s:Option S9},iK S H v s->AV.one v=true
 |none,h=>by rw[show v=.nilP from h];rfl
 |some _,h=>fP.one h
theorem iK.two{S:Nat->Prop}{H:Hp}{v:AV}:∀{s:Option S9},iK S H v s->AV.one v=true/\v.cells=[v]
 |none,h=>by rw[show v=.nilP from h];exact⟨rfl,rfl⟩
 |some _,h=>by obtain⟨p,cv,ov,rfl,_⟩:=(h:fP S H v _);exact⟨rfl,rfl⟩
theorem l3.len{S:Nat->Prop}{H:Hp}{row:List AV}{r:R9}(h:l3 S H row r):row.length=4:=by
 obtain⟨J,rfl,_⟩:=h;rfl
theorem Rows9.len{S:Nat->Prop}{H:Hp}:∀{rows:List (List AV)}{res:List R9},zdo (l3 S H) rows res->∀x∈rows,x.length=4
 |[],[],_,x,F=>by cases F
 |r::rows,t::res,h,x,F=>by
  rcases fk.1 F with rfl|F
  .exact h.1.len
  .exact Rows9.len h.2 x F
theorem mY.sub{S T:Nat->Prop}{H:Hp}{v:AV}{l:List Int}(h:mY S H v l)(hS:∀q,q<H.next->S q->T q):mY T H v l:=by
 obtain⟨q,g,e,i,Z,m⟩:=h;exact⟨q,g,e,hS q Z i,Z,m⟩
theorem mZ.sub{S T:Nat->Prop}{H:Hp}{v:AV}{l:List (List Int)}(h:mZ S H v l)(hS:∀q,q<H.next->S q->T q):mZ T H v l:=by
 rcases h with h|⟨q,g,vs,e,i,Z,m,U,Y⟩
 .exact .inl h
 .exact .inr ⟨q,g,vs,e,hS q Z i,Z,m,U,Y.mono fun a b h=>h.sub hS⟩
theorem i7.sub{S T:Nat->Prop}{H:Hp}(hS:∀q,q<H.next->S q->T q):∀{l:List Int}{v:AV},i7 S H v l->i7 T H v l
 |[],_,h=>h
 |n::l,_,⟨q,w,e,h1,h2,h3,h4⟩=>⟨q,w,e,hS q h2 h1,h2,h3,i7.sub hS h4⟩
theorem fP.sub{S T:Nat->Prop}{H:Hp}{v:AV}{s:S9}(h:fP S H v s)(hS:∀q,q<H.next->S q->T q):fP T H v s:=by
 obtain⟨p,cv,ov,e,h⟩:=h;exact⟨p,cv,ov,e,hS p h.lt h.own,h.lt,h.get,h.cells.sub hS,i7.sub hS h.out⟩
theorem iK.sub{S T:Nat->Prop}{H:Hp}{v:AV}(hS:∀q,q<H.next->S q->T q):∀{s:Option S9},iK S H v s->iK T H v s
 |none,h=>h
 |some _,h=>fP.sub h hS
theorem l3.sub{S T:Nat->Prop}{H:Hp}{row:List AV}{r:R9}(h:l3 S H row r)(hS:∀q,q<H.next->S q->T q):l3 T H row r:=by
 obtain⟨J,e,h⟩:=h;exact⟨J,e,iK.sub hS h⟩
def gW(u:Un)(L:AV)(f:Int)(J:AV)(args:List Int)(K n:Nat):List AV:=[.lst (u.arrays.map Ar.cells),.lst (u.funcs.map Gr.cells),L,.int .i64 f,J,zeT args,.sl K 0 n 4,.nilP,.nilP,.nilP,.nilP,.nilP,.nilP,.nilP,.nilP,.nilP,.nilP,.nilP,.nilP,.nilP,.nilP,.nilP,.nilP]
structure Cx9 where
 S:Nat->Prop
 xp:Nat
 rp:Nat
 u:Un
 hv:AV
 f:Nat
 g:Gr
 sv:AV
 start:S9
 args:List Int
structure Cx9.Ok (c:Cx9):Prop where
 g:c.u.funcs[c.f]?=some c.g
 ne:c.xp≠c.rp
 sx:¬c.S c.xp
 sr:¬c.S c.rp
 len:c.g.nodes.length<2^30
structure Fr9 (c:Cx9) (H:Hp) (rows:List (List AV)) (res:List R9):Prop where
 x:H.get c.xp=some (.cells (gW c.u c.hv c.f c.sv c.args c.rp res.length) 0 true)
 r:H.get c.rp=some (.cells rows.flatten 0 true)
 lx:c.xp<H.next
 lr:c.rp<H.next
 st:fP c.S H c.sv c.start
 rows:zdo (l3 c.S H) rows res
 up:∀q,H.next<=q->c.S q
 len:res.length=c.g.nodes.length
theorem Fr9.keep{c:Cx9}{H H':Hp}{rows:List (List AV)}{Z:List R9}(h:Fr9 c H rows Z)(o:H.next<=H'.next)(A:∀q,q<H.next->H'.get q=H.get q):Fr9 c H' rows Z:=
 have k:Ext9 c.S H H':=⟨o,fun q _ h=>A q h⟩
 ⟨by rw[A _ h.lx];exact h.x,by rw[A _ h.lr];exact h.r,gk h.lx o,gk h.lr o,h.st.keep k,h.rows.mono fun a b h=>h.keep k,fun q K=>h.up q (eP o K),h.len⟩
theorem Fr9.get{c:Cx9}{H:Hp}{rows:List (List AV)}{Z:List R9}(h:Fr9 c H rows Z){k:Int}{r:R9}(j:zd8 Z k=some r):∃J,0<=k/\k<Z.length/\rows[k.toNat]?=some [.bool r.k,.int .i64 r.v,J,.nilP]/\iK c.S H J r.s/\rows.flatten.drop (k.toNat*4)=[.bool r.k,.int .i64 r.v,J,.nilP]++(rows.drop (k.toNat+1)).flatten:=by
 unfold zd8 at j;split at j
 .rename_i o;have I:=zdo.len h.rows;have z:k.toNat<Z.length:=by
   by_cases c:k.toNat<Z.length
   .exact c
   .rw[fL ac]at j;cases j
  have hr:rows[k.toNat]?=some (rows[k.toNat]' ac):=aO ac;obtain⟨J,e,W⟩:=zdo.get h.rows hr j;refine⟨J,o,ac,by rw[hr,e],W,?_⟩;have:=aO (l:=rows) (i:=k.toNat) ac;have U:=Rows9.len h.rows;have F:∀(rows:List (List AV)) (i:Nat) (r:List AV),(∀x∈rows,x.length=4)->rows[i]?=some r->rows.flatten.drop (i*4)=r++(rows.drop (i+1)).flatten:=by
   intro rows;induction rows with
   |nil=>intro i r _ e;simp at e
   |cons a rows ih=>
    intro i r h e;have V:=h a e8;cases i with
    |zero=>simp only[oP,aA]at e;subst e;simp
    |succ i=>
     rw[lQ,show(i+1)*4=a.length+i*4 by omega,FZ,ih i r (fun x Y=>h x (fl _ Y)) xc];rfl
  exact F rows _ _ U (by rw[hr,e])
 .cases j
def kn(f:FuncId):Bool:=f == 37||f == 99999999||f == 99999999||f == 55
structure Std (cfg:Cfg):Prop where
 plain:∀f,kn f=false->Plain cfg f
 keep:∀f,cfg.keep f=false
 plan:cfg.plan=uu pls
def tyW6a.tyF:=ad @b7 (ad @cP (ad @uL (ad @Ba (ad @Bf (ad @Bg (ad @WJ (ad @mJ (@ND))))))))
open tyW6a
noncomputable def Ge:{c:SC // aB 4 (Tryz.f122.body.getD .skip)=c}:=by
 refine⟨?_,?_⟩;rotate_left
 .simp only[Tryz.f122,a8,aB,zda,zc9,zdc,zdd,Nat.blt,Nat.ble];rfl
noncomputable def Gf:{c:SC // aB 15 (Tryz.f79.body.getD .skip)=c}:=by
 refine⟨?_,?_⟩;rotate_left
 .simp only[Tryz.f79,a8,aB,zda,zc9,zdc,zdd,Nat.blt,Nat.ble];rfl
noncomputable def Gg:{c:SC // aB 14 (Tryz.f48.body.getD .skip)=c}:=by
 refine⟨?_,?_⟩;rotate_left
 .simp only[Tryz.f48,a8,aB,zda,zc9,zdc,zdd,Nat.blt,Nat.ble];rfl
noncomputable def Gi:{c:SC // aB 61 (Tryz.f80.body.getD .skip)=c}:=by
 refine⟨?_,?_⟩;rotate_left
 .simp only[Tryz.f80,a8,aB,zda,zc9,zdc,zdd,Nat.blt,Nat.ble];rfl
noncomputable def Gj:{c:SC // aB 58 (Tryz.f49.body.getD .skip)=c}:=by
 refine⟨?_,?_⟩;rotate_left
 .simp only[Tryz.f49,a8,aB,zda,zc9,zdc,zdd,Nat.blt,Nat.ble];rfl
theorem WW{cfg:Cfg}(hS:Std cfg)(b:Bool)(H:Hp):zc2 Tryz.prog cfg 122 [.bool b] H fun v H'=>v=.int .i64 (qq b)/\H'=H:=by
 cases b<;>
 .refine zf (M:=4) (rs:=[.tmp 2]) ((hS.plain _ rfl).call _) (hS.plain _ rfl).ice (hS.plain _ rfl).froz Tryz.func122 rfl rfl Ge.2 rfl ?_;dsimp only[Ge,zcX,Nat.reduceAdd];repeat' (first
   |(apply zcP ?_;clear hK K)|apply Rx.o ?_|(apply aU (fun z V=>?_) (fun z V=>?_)<;>try(cases z;done))|apply ak ?_|(apply zcQ fun K hK=>?_)|apply zcR ?_|apply am ?_)
  all_goals (refine⟨zcT,_,zcU,?_⟩;try simp only[zcS])
  simp[qq]
theorem WX{cfg:Cfg}(hS:Std cfg)(a b:Int)(H:Hp):zc2 Tryz.prog cfg 79 [.int .i64 a,.int .i64 b] H fun v H'=>v=.int .i64 (ss a b)/\H'=H:=by
 refine zf (M:=15) (rs:=[.tmp 4]) ((hS.plain _ rfl).call _) (hS.plain _ rfl).ice (hS.plain _ rfl).froz Tryz.func79 rfl rfl Gf.2 rfl ?_;dsimp only[Gf,zcX,Nat.reduceAdd];repeat' (first
  |(apply zcP ?_;clear hK K)|apply Rx.o ?_|(apply aU (fun z V=>?_) (fun z V=>?_)<;>try(cases z;done))|apply ak ?_|(apply zcQ fun K hK=>?_)|apply ax ?_|apply zcR ?_|apply am ?_)
 .all_goals (refine⟨zcT,_,zcU,?_⟩;try simp only[zcS])
  simp_all[ss]
 .all_goals (refine⟨zcT,_,zcU,?_⟩;try simp only[zcS])
  simp_all[ss]
 .have Z:b≠0:=by assumption
  repeat' (first
   |(apply zcP ?_;clear hK K)|apply Rx.o ?_|(apply aU (fun z V=>?_) (fun z V=>?_)<;>try(cases z;done))|apply ak ?_|(apply zcQ fun K hK=>?_)|apply ax ?_|apply zcR ?_|apply am ?_)
  all_goals (refine⟨zcT,_,zcU,?_⟩;try simp only[zcS])
  simp_all[ss]
theorem WY{cfg:Cfg}(hS:Std cfg)(op a:Int)(H:Hp):zc2 Tryz.prog cfg 48 [.int .i64 op,.int .i64 a] H fun v H'=>v=.int .i64 (qs op a)/\H'=H:=by
 refine zf (M:=14) (rs:=[.tmp 4]) ((hS.plain _ rfl).call _) (hS.plain _ rfl).ice (hS.plain _ rfl).froz Tryz.func48 rfl rfl Gg.2 rfl ?_;dsimp only[Gg,zcX,Nat.reduceAdd];repeat' (first
  |(apply zcP ?_;clear hK K)|apply Rx.o ?_|(apply aU (fun z V=>?_) (fun z V=>?_)<;>try(cases z;done))|apply ak ?_|(apply zcQ fun K hK=>?_)|apply ax ?_|apply zcR ?_|apply am ?_)
 all_goals (refine⟨zcT,_,zcU,?_⟩;try simp only[zcS])
 all_goals simp_all[qs]
theorem WZ{cfg:Cfg}(hS:Std cfg)(op a b:Int)(H:Hp):zc2 Tryz.prog cfg 80 [.int .i64 op,.int .i64 a,.int .i64 b] H fun v H'=>v=.int .i64 (AA op a b)/\H'=H:=by
 have W:=NF b;have Z:zdU Tryz.prog cfg.dec .shl 2 (.int .i64 a) (.int .u64 (nS b))=_:=NG W;have J:zdU Tryz.prog cfg.dec .shr 2 (.int .i64 a) (.int .u64 (nS b))=_:=bin_shr W;have Y:zdU Tryz.prog cfg.dec .shr 154 (.int .u64 (IntKind.wrap .u64 a)) (.int .u64 (nS b))=_:=bin_shr W;unfold nS at Z J Y;refine zf (M:=61) (rs:=[.tmp 6]) ((hS.plain _ rfl).call _) (hS.plain _ rfl).ice (hS.plain _ rfl).froz Tryz.func80 rfl rfl Gi.2 rfl ?_;dsimp only[Gi,zcX,Nat.reduceAdd];repeat' (first
  |(apply zcP ?_;clear hK K)|apply Rx.o ?_|(apply i5 ?_;first|refine Rx.k (WW hS _ _) ?_)|(apply aU (fun z V=>?_) (fun z V=>?_)<;>try(cases z;done))|apply ak ?_|(apply zcQ fun K hK=>?_)|apply ax ?_|apply zcR ?_|apply am ?_)
 all_goals (refine⟨zcT,_,zcU,?_⟩;try simp only[zcS])
 all_goals simp_all[AA,nS]
theorem W0{cfg:Cfg}(hS:Std cfg)(op a b:Int)(H:Hp):zc2 Tryz.prog cfg 49 [.int .i64 op,.int .i64 a,.int .i64 b] H fun v H'=>v=.int .i64 (qr op a b)/\H'=H:=by
 refine zf (M:=58) (rs:=[.tmp 6]) ((hS.plain _ rfl).call _) (hS.plain _ rfl).ice (hS.plain _ rfl).froz Tryz.func49 rfl rfl Gj.2 rfl ?_;dsimp only[Gj,zcX,Nat.reduceAdd];repeat' (first
  |(apply zcP ?_;clear hK K)|apply Rx.o ?_|(apply i5 ?_;first|refine Rx.k (WX hS _ _ _) ?_|refine Rx.k (WZ hS _ _ _ _) ?_)|(apply aU (fun z V=>?_) (fun z V=>?_)<;>try(cases z;done))|apply ak ?_|(apply zcQ fun K hK=>?_)|apply ax ?_|apply zcR ?_|apply am ?_)
 all_goals (refine⟨zcT,_,zcU,?_⟩;try simp only[zcS])
 all_goals simp_all[qr]
end
section
def tyEvA.tyF:=ad @cP (ad @b7 (ad @lw (ad @jE (ad @ly (ad @oS (ad @qz (ad @qC (ad @sE (ad @qD (ad @qE (ad @qF (ad @ei (ad @fd (ad @sB (ad @qA (@sD))))))))))))))))
open tyEvA
noncomputable def Gk:{c:SC // aB 14 (Tryz.f149.body.getD .skip)=c}:=by
 refine⟨?_,?_⟩;rotate_left
 .simp only[Tryz.f149,a8,aB,zda,zc9,zdc,zdd,Nat.blt,Nat.ble];rfl
noncomputable def xG:{c:SC // aB 25 (Tryz.f150.body.getD .skip)=c}:=by
 refine⟨?_,?_⟩;rotate_left
 .simp only[Tryz.f150,a8,aB,zda,zc9,zdc,zdd,Nat.blt,Nat.ble];rfl
noncomputable def sN:{c:SC // aB 27 (Tryz.f151.body.getD .skip)=c}:=by
 refine⟨?_,?_⟩;rotate_left
 .simp only[Tryz.f151,a8,aB,zda,zc9,zdc,zdd,Nat.blt,Nat.ble];rfl
def xH(f:FuncId):Bool:=Nat.beq f 149||Nat.beq f 150||Nat.beq f 102||Nat.beq f 104||Nat.beq f 151||Nat.beq f 184||Nat.beq f 153||Nat.beq f 103||Nat.beq f 65||Nat.beq f 36||Nat.beq f 34||Nat.beq f 33||Nat.beq f 35
def sO(x:Int×Int):List AV:=[.int .i64 x.1,.int .i64 x.2]
theorem W1(x y:Int×Int)(h:sO x=sO y):x=y:=by
 simp only[sO,cS,AV.int.injEq,a1,fM]at h;exact j3 h.1 h.2
def sP(x:Int×Int×Int):List AV:=[.int .i64 x.1,.int .i64 x.2.1,.int .i64 x.2.2]
theorem W2(x y:Int×Int×Int)(h:sP x=sP y):x=y:=by
 simp only[sP,cS,AV.int.injEq,a1,fM]at h;exact j3 h.1 (j3 h.2.1 h.2.2)
theorem Gl:Std (zcW pls []) where
 plain f _:=zdO (fun _=>rfl) rfl
 keep _:=rfl
 plan:=rfl
theorem W3(ρ:Nat->Int)(x:Int×Int):bh Tryz.prog ρ 48 (sO x) (.int .i64 (qs x.1 x.2)):=zdZ fit (pls:=pls) (l:=[]) trivial (.cons (.int _ _) (.cons (.int _ _) .nil)) (.int _ _) (aZ (fun v H' h=>h.1) (WY Gl x.1 x.2 zdw))
theorem W4(ρ:Nat->Int)(x:Int×Int×Int):bh Tryz.prog ρ 49 (sP x) (.int .i64 (qr x.1 x.2.1 x.2.2)):=zdZ fit (pls:=pls) (l:=[]) trivial (.cons (.int _ _) (.cons (.int _ _) (.cons (.int _ _) .nil))) (.int _ _) (aZ (fun v H' h=>h.1) (W0 Gl x.1 x.2.1 x.2.2 zdw))
noncomputable def Bt:En:=⟨48,false,b0 (fun _=>True) sO fun x=>.int .i64 (qs x.1 x.2)⟩
theorem W5(ρ:Nat->Int):zdF Tryz.prog ρ Bt:=zdM fun x _=>W3 ρ x
noncomputable def Bu:En:=⟨49,false,b0 (fun _=>True) sP fun x=>.int .i64 (qr x.1 x.2.1 x.2.2)⟩
theorem W6(ρ:Nat->Int):zdF Tryz.prog ρ Bu:=zdM fun x _=>W4 ρ x
structure EvT (tb:List En):Prop where
 pl:∀f,xH f=true->(∀ar,zdS tb f ar=none)/\iF tb f=false
 un:∀ar,zdS tb 48 ar=Bt.sp ar
 bi:∀ar,zdS tb 49 ar=Bu.sp ar
theorem EvT.plain{tb:List En}(h:EvT tb){f:FuncId}(j:xH f=true):Plain (zcW pls tb) f:=zdO (h.pl f j).1 (h.pl f j).2
theorem EvT.kUn{tb:List En}(h:EvT tb)(op a:Int)(H:Hp):zc2 Tryz.prog (zcW pls tb) 48 [.int .i64 op,.int .i64 a] H fun v H'=>v=.int .i64 (qs op a)/\H'=H:=zdW (enc:=sO) (ok:=fun _=>True) (out:=fun x=>.int .i64 (qs x.1 x.2)) W1 (x:=(op,a)) (h.un _) trivial
theorem EvT.kBi{tb:List En}(h:EvT tb)(op a b:Int)(H:Hp):zc2 Tryz.prog (zcW pls tb) 49 [.int .i64 op,.int .i64 a,.int .i64 b] H fun v H'=>v=.int .i64 (qr op a b)/\H'=H:=zdW (enc:=sP) (ok:=fun _=>True) (out:=fun x=>.int .i64 (qr x.1 x.2.1 x.2.2)) W2 (x:=(op,a,b)) (h.bi _) trivial
structure At9 (c:Cx9) (n:Nat) (r:R9) (sv:AV) (H:Hp):Prop where
 l0:zep Tryz.prog H 4 (.ptr c.rp (n*4))=some (.bool r.k)
 l1:zep Tryz.prog H 2 (.ptr c.rp (n*4+1))=some (.int .i64 r.v)
 l2:zep Tryz.prog H 76 (.ptr c.rp (n*4+2))=some sv
 lr:zep Tryz.prog H 134 (.ptr c.rp (n*4))=some (.agg [.bool r.k,.int .i64 r.v,sv,.nilP])
theorem Fr9.alloc{c:Cx9}{H:Hp}{rows:List (List AV)}{Z:List R9}(h:Fr9 c H rows Z)(b:HB):Fr9 c (H.alloc b) rows Z:=h.keep (gm _) fun q K=>fK
theorem Fr9.at{c:Cx9}{H:Hp}{rows:List (List AV)}{Z:List R9}(g:Fr9 c H rows Z){n:Nat}{r:R9}(j:zd8 Z n=some r):∃J,n<Z.length/\iK c.S H J r.s/\zdn Tryz.prog 127 (.sl c.rp 0 Z.length 4) (.int .i64 (n:Int))=some (.ptr c.rp (n*4))/\∀H',Fr9 c H' rows Z->At9 c n r J H':=by
 obtain⟨J,C,i,hr,Y,hd⟩:=g.get j;rw[dQ]at hr hd;refine⟨J,ac,Y,by rw[mK Tryz.underlying127 uM ac];simp,fun H' V=>?_⟩;have m:=V.r;obtain⟨z,U,rs⟩:=r;have O:=Y.one;have A:rows.flatten.drop (n*4+1)=[.int .i64 U,J,.nilP]++(rows.drop (n+1)).flatten:=by rw[<-wl,hd];rfl
 have M:rows.flatten.drop (n*4+2)=[J,.nilP]++(rows.drop (n+1)).flatten:=by rw[<-wl,hd];rfl
 have L:∀(W:List AV) (o:Nat),sd Tryz.prog 4 o (some (.cells W 0 true))=W[o]?:=fun _ _=>af;have K:∀(W:List AV) (o:Nat),sd Tryz.prog 2 o (some (.cells W 0 true))=W[o]?:=fun _ _=>af;have I:∀(W:List AV) (o:Nat),sd Tryz.prog 76 o (some (.cells W 0 true))=W[o]?:=fun _ _=>af;have F:∀(W:List AV) (o:Nat),sd Tryz.prog 134 o (some (.cells W 0 true))=zdA 4 (W.drop o):=fun _ _=>af;have e:∀(o:Nat),rows.flatten[o]?=(rows.flatten.drop o)[0]?:=fun o=>by rw[nI,mA]
 refine⟨?_,?_,?_,?_⟩
 .rw[se,m,L,e,hd];rfl
 .rw[se,m,K,e,A];rfl
 .rw[se,m,I,e,M];rfl
 .rw[se,m,F,hd];rfl
theorem Gm{S:Nat->Prop}{H:Hp}{cv:AV}{cs:List (List Int)}(h:mZ S H cv cs){m:Nat}{l:List Int}(I:cs[m]?=some l):∃q g vs L j,cv=.sl q 0 vs.length 1/\m<vs.length/\vs.length=cs.length/\S q/\q<H.next/\H.get q=some (.cells vs g true)/\vs.length<2^30/\zdo (mY S H) vs cs/\vs[m]?=some (.sl L 0 l.length 1)/\S L/\L<H.next/\H.get L=some (.cells (zdX l) j true)/\l.length<2^30:=by
 rcases h with⟨rfl,_⟩|⟨q,g,vs,rfl,V,U,O,M,i⟩
 .simp at I
 .have e:=zdo.len i;have K:m<cs.length:=by
   by_cases c:m<cs.length
   .exact c
   .rw[fL ac]at I;cases I
  have Z:vs[m]?=some vs[m]:=aO ac;obtain⟨L,j,A,F,Y,J,W⟩:=zdo.get i Z I;exact⟨q,g,vs,L,j,rfl,ac,e,V,U,O,M,i,by rw[Z,A],F,Y,J,W⟩
theorem Bv{q n m:Nat}(h:m<n):zdn Tryz.prog 58 (.sl q 0 n 1) (.int .i64 (m:Int))=some (.ptr q m):=by rw[mK Tryz.underlying58 uJ h];simp
theorem Bw{q n m:Nat}(h:m<n):zdn Tryz.prog 33 (.sl q 0 n 1) (.int .i64 (m:Int))=some (.ptr q m):=by rw[mK Tryz.underlying33 uH h];simp
theorem W7{l:List Int}{j:Nat}(h:j<l.length):(zdX l)[j]?=some (.int .i64 (l.getD j 0)):=by
 unfold zdX;rw[ea,cH,aO h];rfl
section
variable {tb:List En} (hT:EvT tb) {c:Cx9} {H:Hp} {rows:List (List AV)} {res:List R9}
include hT
theorem W8(g:Fr9 c H rows res){k:Int}{r:R9}(j:zd8 res k=some r):zc2 Tryz.prog (zcW pls tb) 149 [.ptr c.xp 0,.int .i64 k] H fun v H'=>v=.int .i64 (if r.k=true then -1 else k)/\H'=H:=by
 have J:Plain (zcW pls tb) 149:=hT.plain dt;obtain⟨n,rfl⟩:∃n:Nat,k=n:=⟨k.toNat,by obtain⟨_,o,_⟩:=g.get j;omega⟩;obtain⟨U,O,L,F,Z⟩:=g.at j;have Y:=g.x;unfold gW at Y;have a0:=(Z H g).l0;obtain⟨W,I,rs⟩:=r;cases W<;>
 .refine zf (M:=14) (rs:=[.tmp 4]) (J.call _) J.ice J.froz Tryz.func149 rfl rfl Gk.2 rfl ?_;dsimp only[Gk,zcX,Nat.reduceAdd];repeat' (first
   |(apply zcP ?_;clear hK K)|apply Rx.o ?_|(apply aU (fun z V=>?_) (fun z V=>?_)<;>try(cases z;done))|apply ak ?_|(apply zcQ fun K hK=>?_)|apply zcR ?_|apply am ?_)
  all_goals (refine⟨zcT,_,zcU,?_⟩;try simp only[zcS])
  exact⟨rfl,trivial⟩
theorem Gn(Y:Fr9 c H rows res){n:Nd}(I:n.kids.length<2^30){k:Int}(j:oO res n=some k):zc2 Tryz.prog (zcW pls tb) 150 [.ptr c.xp 0,.agg n.cells] H fun v H'=>v=.int .i64 k/\H'=H.alloc (.cells n.cells 0 true):=by
 have J:Plain (zcW pls tb) 150:=hT.plain dt;unfold oO at j;obtain⟨r,O,W⟩:=cj.1 j;obtain⟨zd3,F,U⟩:=cj.1 O;obtain⟨m,rfl⟩:∃m:Nat,zd3=m:=⟨zd3.toNat,by obtain⟨_,h0,_⟩:=Y.get U;omega⟩;obtain⟨sv,hn,ho,hx,C⟩:=Y.at U;obtain⟨i,g,L⟩:=n;simp only at F W I;have A:(Nd.mk i g L).cells=[.int .i64 i,.int .i64 g,.lst (L.map fun k=>[.int .i64 k])]:=rfl;rw[A];have Z:=Y.alloc (.cells [.int .i64 i,.int .i64 g,.lst (L.map fun k=>[.int .i64 k])] 0 true);have o:=Z.x;unfold gW at o;have zd0:=(C _ Z).l1;have y0:(c.xp == H.next)=false:=zc7 (by have:=Y.lx;omega);by_cases hv:r.v=0
 .rw[ah ac]at W;refine zf (M:=25) (rs:=[.tmp 4]) (J.call _) J.ice J.froz Tryz.func150 rfl rfl xG.2 rfl ?_;dsimp only[xG,zcX,Nat.reduceAdd];repeat' (first
   |(apply zcP ?_;clear hK K)|apply Ry.o ?_|(apply az (fun z V=>?_) (fun z V=>?_)<;>try(cases z;done))|apply ak ?_|(apply zcQ fun K hK=>?_)|(apply zdG 1 [(3,12),(5,12),(7,12),(10,12)] fun K hK=>?_)|(apply zdB ?_;try intro _)|(apply zdJ ?_ ?_<;>clear hK K)|apply b4 ?_|apply zcR ?_|apply am ?_)
  .exact zdj
  all_goals (refine⟨zcT,_,zcU,?_⟩;try simp only[zcS])
  exact⟨trivial,trivial⟩
 .rw[ay hv]at W;refine zf (M:=25) (rs:=[.tmp 4]) (J.call _) J.ice J.froz Tryz.func150 rfl rfl xG.2 rfl ?_;dsimp only[xG,zcX,Nat.reduceAdd];repeat' (first
   |(apply zcP ?_;clear hK K)|apply Ry.o ?_|(apply az (fun z V=>?_) (fun z V=>?_)<;>try(cases z;done))|apply ak ?_|(apply zcQ fun K hK=>?_)|(apply zdG 1 [(3,12),(5,12),(7,12),(10,12)] fun K hK=>?_)|(apply zdB ?_;try intro _)|(apply zdJ ?_ ?_<;>clear hK K)|apply b4 ?_|apply zcR ?_|apply am ?_)
  .exact zdj
  all_goals (refine⟨zcT,_,zcU,?_⟩;try simp only[zcS])
  exact⟨trivial,trivial⟩
theorem W9{S:Nat->Prop}{v:AV}{s:S9}(hS:fP S H v s){a i x:Int}(h:AI s a i=some x):zc2 Tryz.prog (zcW pls tb) 151 [v,.int .i64 a,.int .i64 i] H fun w H'=>w=.int .i64 x/\H'=H:=by
 have J:Plain (zcW pls tb) 151:=hT.plain dt;obtain⟨p,cv,ov,rfl,hp⟩:=hS;unfold AI at h;split at h
 .rename_i C;obtain⟨m,rfl⟩:∃m:Nat,a=m:=⟨a.toNat,ac⟩;rw[dQ]at h;obtain⟨l,Z,F⟩:=cj.1 h;simp only[aA]at F;obtain⟨q,g,vs,L,Y,rfl,W,U,_,_,gq,_,_,gv,_,_,g2,_⟩:=Gm hp.cells Z;clear U;have gp:=hp.get;have x1:=Bv (q:=q) W;clear h Z;by_cases o:i<0
  .rw[ay (.inl o)]at F;subst F;refine zf (M:=27) (rs:=[.tmp 6]) (J.call _) J.ice J.froz Tryz.func151 rfl rfl sN.2 rfl ?_;dsimp only[sN,zcX,Nat.reduceAdd];repeat' (first
    |(apply zcP ?_;clear hK K)|apply Ry.o ?_|(apply aT (fun A I=>?_) (fun A I=>?_)<;>try(cases A;done))|(apply az (fun z V=>?_) (fun z V=>?_)<;>try(cases z;done))|apply ak ?_|(apply zcQ fun K hK=>?_)|apply zcR ?_|apply am ?_)
   all_goals (refine⟨zcT,_,zcU,?_⟩;try simp only[zcS])
   first|exact⟨trivial,trivial⟩|exact⟨rfl,trivial⟩
  obtain⟨j,rfl⟩:∃j:Nat,i=j:=⟨i.toNat,ac⟩;by_cases O:(l.length:Int)<=j
  .rw[ay (.inr O)]at F;subst F;refine zf (M:=27) (rs:=[.tmp 6]) (J.call _) J.ice J.froz Tryz.func151 rfl rfl sN.2 rfl ?_;dsimp only[sN,zcX,Nat.reduceAdd];repeat' (first
    |(apply zcP ?_;clear hK K)|apply Ry.o ?_|(apply aT (fun A I=>?_) (fun A I=>?_)<;>try(cases A;done))|(apply az (fun z V=>?_) (fun z V=>?_)<;>try(cases z;done))|apply ak ?_|(apply zcQ fun K hK=>?_)|apply zcR ?_|apply am ?_)
   all_goals (refine⟨zcT,_,zcU,?_⟩;try simp only[zcS])
   first|exact⟨trivial,trivial⟩|exact⟨rfl,trivial⟩
  .rw[ah ac,dQ]at F;subst F;have x2:=Bw (q:=L) (n:=l.length) (m:=j) ac;have gj:=W7 (l:=l) (j:=j) ac;refine zf (M:=27) (rs:=[.tmp 6]) (J.call _) J.ice J.froz Tryz.func151 rfl rfl sN.2 rfl ?_;dsimp only[sN,zcX,Nat.reduceAdd];repeat' (first
    |(apply zcP ?_;clear hK K)|apply Ry.o ?_|(apply aT (fun A I=>?_) (fun A I=>?_)<;>try(cases A;done))|(apply az (fun z V=>?_) (fun z V=>?_)<;>try(cases z;done))|apply ak ?_|(apply zcQ fun K hK=>?_)|apply zcR ?_|apply am ?_)
   all_goals (refine⟨zcT,_,zcU,?_⟩;try simp only[zcS])
   first|exact⟨trivial,trivial⟩|exact⟨rfl,trivial⟩
 .cases h
end
end
section
def lB(H:Hp)(v:AV)(l:List (List UInt8))(lo:Nat):Prop:=∃r g,v=.sl r 0 l.length 1/\H.get r=some (.cells (l.map .str) g true)/\g<=l.length/\lo<=r/\r<H.next
def m1(H:Hp)(v:AV)(l:List (List UInt8))(lo:Nat):Prop:=(v=.nilS/\l=[])\/lB H v l lo
theorem lB.low{H H':Hp}{v:AV}{l:List (List UInt8)}{lo:Nat}(h:lB H v l lo)(o:H.next<=H'.next)(A:∀k,lo<=k->k<H.next->H'.get k=H.get k):lB H' v l lo:=by
 obtain⟨r,g,i,Z,m,U,Y⟩:=h;exact⟨r,g,i,by rw[A r U Y];exact Z,m,U,ac⟩
def zd9(v:AV)(k:Nat):Prop:=∃n,v=.sl k 0 n 1
def oX(v o:AV)(H H':Hp):Prop:=(∀k,k<H.next->¬zd9 v k->H'.get k=H.get k)/\∀k,zd9 o k->zd9 v k\/H.next<=k
theorem lB.lt{H:Hp}{v:AV}{l:List (List UInt8)}{lo:Nat}(h:lB H v l lo){k:Nat}(j:zd9 v k):lo<=k/\k<H.next:=by
 obtain⟨r,g,rfl,_,_,U,i⟩:=h;obtain⟨n,e⟩:=j;simp only[AV.sl.injEq]at e;rw[<-e.1];exact⟨U,i⟩
theorem m1.lt{H:Hp}{v:AV}{l:List (List UInt8)}{lo:Nat}(h:m1 H v l lo){k:Nat}(j:zd9 v k):lo<=k/\k<H.next:=by
 rcases h with⟨rfl,_⟩|h
 .obtain⟨n,e⟩:=j;simp at e
 .exact h.lt j
theorem lB.keep{H H':Hp}{v:AV}{l:List (List UInt8)}{lo:Nat}(h:lB H v l lo)(o:H.next<=H'.next)(A:∀k,zd9 v k->H'.get k=H.get k):lB H' v l lo:=by
 obtain⟨r,g,rfl,Z,m,U,i⟩:=h;exact⟨r,g,rfl,Bl,m,U,ac⟩
theorem m1.keep{H H':Hp}{v:AV}{l:List (List UInt8)}{lo:Nat}(h:m1 H v l lo)(o:H.next<=H'.next)(A:∀k,zd9 v k->H'.get k=H.get k):m1 H' v l lo:=h.imp id fun h=>h.keep o A
theorem Gp(l:List (List UInt8)):(l.map AV.str).all AV.one=true:=by simp[AV.one]
theorem Xa{H:Hp}{r imm:Nat}{m:List (List UInt8)}(h:H.get r=some (.cells (m.map .str) imm true)):zeN H 1 (.sl r 0 m.length 1)=some (m.length,m.map .str):=by
 have:=lX (H:=H) (r:=r) (o:=0) (n:=m.length) (z:=1) (s:=1) h aE;rw[this,dW,eF aE]
theorem Xb{H:Hp}{v x:AV}{l m:List (List UInt8)}{lo:Nat}(L:m1 H v l lo)(K:lo<=H.next)(F:zeN H 1 x=some (m.length,m.map .str))(M:m≠[])(Y:l.length+m.length<2^40):
 ∃o H',zen Tryz.prog false H 100 100 v x=some (o,H')/\lB H' o (l++m) lo/\H'.next=H.next+1/\(∀k,k<lo->H'.get k=H.get k)/\oX v o H H':=by
 obtain⟨n,Z⟩:∃n,m.length=n+1:=⟨m.length-1,xB⟩;have i:zef=70368744177664:=rfl;rw[Z]at F;rcases L with⟨rfl,rfl⟩|⟨r,g,rfl,V,O,J,I⟩
 .refine⟨.sl H.next 0 (n+1) 1,H.alloc (.cells (m.map .str) 0 true),append_nil Tryz.underlying100 AY AZ A0 af F (Gp m) rfl jm jm,⟨H.next,0,nN,ik,ac,K,cQ _⟩,rfl,fun k j=>fK,fun k j _=>fK,fun k j=>.inr ?_⟩;obtain⟨U,e⟩:=j;simp only[AV.sl.injEq]at e;omega
 .have W:gh false H 1 (.sl r 0 l.length 1)=H:=by
   unfold gh;simp only[V,bz,cX,gA];have:Nat.blt l.length l.length=false:=by
    cases Y:Nat.blt l.length l.length with
    |false=>rfl
    |true=>rw[gL]at Y;omega
   simp[this]
  refine⟨.sl H.next 0 (l.length+(n+1)) 1,(H.kill r).alloc (.cells (l.map .str++m.map .str) (g-0) true),?_,⟨H.next,g,nN,?_,cp,K,cQ _⟩,rfl,fun k j=>?_,fun k j z=>?_,fun k j=>.inr ?_⟩
  .simp only[zen,Tryz.underlying100,AY,AZ,A0,show kw Tryz.prog 100=true by kernel_rfl,F,Gp,W,mH,bS,dl,jx,zfz,V,cX,bz,gA,dW];rw[ay ⟨jm,jm,trivial,trivial,O⟩];simp
  .show((H.kill r).alloc _).get (H.kill r).next=_
   rw[zcY,ay rfl];simp
  .rw[zcY,ah lA,zeI,ah ac]
  .rw[zcY,ah lA,zeI,ah (fun e=>z ⟨_,li⟩)]
  .obtain⟨U,e⟩:=j;simp only[AV.sl.injEq]at e;omega
theorem Gq{H:Hp}{v:AV}{l:List (List UInt8)}{lo r imm:Nat}(s:List UInt8)(L:m1 H v l lo)(K:lo<=H.next)(Z:H.get r=some (.cells [.str s] imm true))(z:l.length<2^39):
 ∃o H',zen Tryz.prog false H 100 100 v (.sl r 0 1 1)=some (o,H')/\lB H' o (l++[s]) lo/\H'.next=H.next+1/\(∀k,k<lo->H'.get k=H.get k)/\oX v o H H':=
 Xb L K (Xa (m:=[s]) Z) aE cp
theorem Xc(l:List (List UInt8)):zeg 1 l.length (l.map .str)=l.map fun s=>[AV.str s]:=by
 induction l with
 |nil=>rfl
 |cons a l ih=>simp[zeg,ih]
def eU(H:Hp)(v:AV)(l:List Int)(lo:Nat):Prop:=∃r g,v=.sl r 0 l.length 1/\H.get r=some (.cells (l.map (.int .i64)) g true)/\g<=l.length/\lo<=r/\r<H.next
def ep(H:Hp)(v:AV)(l:List Int)(lo:Nat):Prop:=(v=.nilS/\l=[])\/eU H v l lo
theorem eU.low{H H':Hp}{v:AV}{l:List Int}{lo:Nat}(h:eU H v l lo)(o:H.next<=H'.next)(A:∀k,lo<=k->k<H.next->H'.get k=H.get k):eU H' v l lo:=by
 obtain⟨r,g,i,Z,m,U,Y⟩:=h;exact⟨r,g,i,by rw[A r U Y];exact Z,m,U,ac⟩
theorem eU.lt{H:Hp}{v:AV}{l:List Int}{lo:Nat}(h:eU H v l lo){k:Nat}(j:zd9 v k):lo<=k/\k<H.next:=by
 obtain⟨r,g,rfl,_,_,U,i⟩:=h;obtain⟨n,e⟩:=j;simp only[AV.sl.injEq]at e;rw[<-e.1];exact⟨U,i⟩
theorem ep.lt{H:Hp}{v:AV}{l:List Int}{lo:Nat}(h:ep H v l lo){k:Nat}(j:zd9 v k):lo<=k/\k<H.next:=by
 rcases h with⟨rfl,_⟩|h
 .obtain⟨n,e⟩:=j;simp at e
 .exact h.lt j
theorem eU.keep{H H':Hp}{v:AV}{l:List Int}{lo:Nat}(h:eU H v l lo)(o:H.next<=H'.next)(A:∀k,zd9 v k->H'.get k=H.get k):eU H' v l lo:=by
 obtain⟨r,g,rfl,Z,m,U,i⟩:=h;exact⟨r,g,rfl,Bl,m,U,ac⟩
theorem ep.keep{H H':Hp}{v:AV}{l:List Int}{lo:Nat}(h:ep H v l lo)(o:H.next<=H'.next)(A:∀k,zd9 v k->H'.get k=H.get k):ep H' v l lo:=h.imp id fun h=>h.keep o A
theorem xI(l:List Int):(l.map (AV.int .i64)).all AV.one=true:=by simp[AV.one]
theorem Gs{H:Hp}{r imm:Nat}{m:List Int}(h:H.get r=some (.cells (m.map (.int .i64)) imm true)):zeN H 1 (.sl r 0 m.length 1)=some (m.length,m.map (.int .i64)):=by
 have:=lX (H:=H) (r:=r) (o:=0) (n:=m.length) (z:=1) (s:=1) h aE;rw[this,dW,eF aE]
theorem Xd{H:Hp}{v x:AV}{l m:List Int}{lo:Nat}(L:ep H v l lo)(K:lo<=H.next)(F:zeN H 1 x=some (m.length,m.map (.int .i64)))(M:m≠[])(Y:l.length+m.length<2^40):
 ∃o H',zen Tryz.prog false H 23 23 v x=some (o,H')/\eU H' o (l++m) lo/\H'.next=H.next+1/\(∀k,k<lo->H'.get k=H.get k)/\oX v o H H':=by
 obtain⟨n,Z⟩:∃n,m.length=n+1:=⟨m.length-1,xB⟩;have i:zef=70368744177664:=rfl;rw[Z]at F;rcases L with⟨rfl,rfl⟩|⟨r,g,rfl,V,O,J,I⟩
 .refine⟨.sl H.next 0 (n+1) 1,H.alloc (.cells (m.map (.int .i64)) 0 true),append_nil Tryz.underlying23 jl qx qy af F (xI m) rfl jm jm,⟨H.next,0,nN,ik,ac,K,cQ _⟩,rfl,fun k j=>fK,fun k j _=>fK,fun k j=>.inr ?_⟩;obtain⟨U,e⟩:=j;simp only[AV.sl.injEq]at e;omega
 .have W:gh false H 1 (.sl r 0 l.length 1)=H:=by
   unfold gh;simp only[V,bz,cX,gA];have:Nat.blt l.length l.length=false:=by
    cases Y:Nat.blt l.length l.length with
    |false=>rfl
    |true=>rw[gL]at Y;omega
   simp[this]
  refine⟨.sl H.next 0 (l.length+(n+1)) 1,(H.kill r).alloc (.cells (l.map (.int .i64)++m.map (.int .i64)) (g-0) true),?_,⟨H.next,g,nN,?_,cp,K,cQ _⟩,rfl,fun k j=>?_,fun k j z=>?_,fun k j=>.inr ?_⟩
  .simp only[zen,Tryz.underlying23,jl,qx,qy,show kw Tryz.prog 23=true by kernel_rfl,F,xI,W,mH,bS,dl,jx,zfz,V,cX,bz,gA,dW];rw[ay ⟨jm,jm,trivial,trivial,O⟩];simp
  .show((H.kill r).alloc _).get (H.kill r).next=_
   rw[zcY,ay rfl];simp
  .rw[zcY,ah lA,zeI,ah ac]
  .rw[zcY,ah lA,zeI,ah (fun e=>z ⟨_,li⟩)]
  .obtain⟨U,e⟩:=j;simp only[AV.sl.injEq]at e;omega
theorem xJ{H:Hp}{v:AV}{l:List Int}{lo r imm:Nat}(s:Int)(L:ep H v l lo)(K:lo<=H.next)(Z:H.get r=some (.cells [.int .i64 s] imm true))(z:l.length<2^39):
 ∃o H',zen Tryz.prog false H 23 23 v (.sl r 0 1 1)=some (o,H')/\eU H' o (l++[s]) lo/\H'.next=H.next+1/\(∀k,k<lo->H'.get k=H.get k)/\oX v o H H':=
 Xd L K (Gs (m:=[s]) Z) aE cp
theorem eU.len{H H':Hp}{v:AV}{l:List Int}{lo:Nat}(h:eU H v l lo):zdu Tryz.prog H' 23 v=some (.int .i64 l.length):=by
 obtain⟨r,g,rfl,_⟩:=h;exact zeV Tryz.underlying23 _ _ _ _
theorem eU.at{H:Hp}{v:AV}{l:List Int}{lo:Nat}(h:eU H v l lo){i:Nat}(C:i<l.length):
 ∃r,zdn Tryz.prog 23 v (.int .i64 (i:Int))=some (.ptr r i)/\zep Tryz.prog H 3 (.ptr r i)=some (.int .i64 l[i]):=by
 obtain⟨r,g,rfl,Z,_⟩:=h;refine⟨r,?_,?_⟩
 .rw[mK Tryz.underlying23 jl C];simp
 .rw[qo Tryz.underlying3 rfl Z,ea,aO C];rfl
theorem Bx(l:List Int):zeg 1 l.length (l.map (.int .i64))=l.map fun s=>[AV.int .i64 s]:=by
 induction l with
 |nil=>rfl
 |cons a l ih=>simp[zeg,ih]
theorem Gt(n:Nat):∀(l:List Int) (H:Hp),ir (fB (n+1)) (l.map (.int .i64)) H=some (l.map (.int .i64),H)
 |[],H=>rfl
 |a::l,H=>by
  have:=Gt n l H;have e:fB (n+1) (.int .i64 a) H=some (.int .i64 a,H):=rfl;simp only[dO,ir,e,this]
theorem eU.ice{H:Hp}{v:AV}{l:List Int}{lo:Nat}(h:eU H v l lo)(n:Nat):
 ∃H',fB (n+2) v H=some (zdR l,H')/\eU H' v l lo/\H'.next=H.next/\(∀k,k<lo->H'.get k=H.get k)/\∀k,¬zd9 v k->H'.get k=H.get k:=by
 obtain⟨r,g,rfl,Z,Y,U,i⟩:=h;refine⟨H.set r (.cells (l.map (.int .i64)) (max g l.length) true),?_,⟨r,max g l.length,rfl,hW,ac,U,i⟩,rfl,fun k j=>by rw[aX,ah ac],fun k j=>by rw[aX,ah (fun e=>j ⟨_,li⟩)]⟩;have e:fB (n+2) (.sl r 0 l.length 1) H=match H.get r with
  |some (.cells W g O)=>match Nat.ble (0+l.length*1) W.length&&Nat.ble g W.length with
   |true=>match ir (fB (n+1)) ((W.drop 0).take (l.length*1)) (H.set r (.cells W (max g (0+l.length*1)) O))with
    |some (m,H)=>some (.lst (zeg 1 l.length m),H)
    |none=>none
   |false=>none
  |_=>none:=rfl
 rw[e,Z];simp only[cX,bz,gA,dW];have F:Nat.ble l.length l.length=true:=by rw[xd];omega
 have I:Nat.ble g l.length=true:=by rw[xd];omega
 rw[F,I];simp only[qj];rw[eF aE,Gt];simp only[Bx]
def oY(H:Hp)(v:AV)(l:List Int)(lo:Nat):Prop:=∃r,v=.sl r 0 l.length 1/\H.get r=some (.cells (l.map (.int .i64)) 0 true)/\lo<=r/\r<H.next
def m8(H:Hp)(v:AV)(l:List Int)(lo:Nat):Prop:=(v=.nilS/\l=[])\/oY H v l lo
theorem oY.b{H:Hp}{v:AV}{l:List Int}{lo:Nat}(h:oY H v l lo):eU H v l lo:=by
 obtain⟨r,i,g,m,U⟩:=h;exact⟨r,0,i,g,cN _,m,U⟩
theorem m8.n{H:Hp}{v:AV}{l:List Int}{lo:Nat}(h:m8 H v l lo):ep H v l lo:=h.imp id fun h=>h.b
theorem oY.keep{H H':Hp}{v:AV}{l:List Int}{lo:Nat}(h:oY H v l lo)(o:H.next<=H'.next)(A:∀k,zd9 v k->H'.get k=H.get k):oY H' v l lo:=by
 obtain⟨r,rfl,g,U,i⟩:=h;exact⟨r,rfl,by rw[A r ⟨_,rfl⟩];exact g,U,ac⟩
theorem m8.keep{H H':Hp}{v:AV}{l:List Int}{lo:Nat}(h:m8 H v l lo)(o:H.next<=H'.next)(A:∀k,zd9 v k->H'.get k=H.get k):m8 H' v l lo:=h.imp id fun h=>h.keep o A
theorem Xe{H:Hp}{v x:AV}{l m:List Int}{lo:Nat}(L:m8 H v l lo)(K:lo<=H.next)(F:zeN H 1 x=some (m.length,m.map (.int .i64)))(M:m≠[])(Y:l.length+m.length<2^40):
 ∃o H',zen Tryz.prog false H 23 23 v x=some (o,H')/\oY H' o (l++m) lo/\H'.next=H.next+1/\(∀k,k<lo->H'.get k=H.get k)/\oX v o H H':=by
 obtain⟨n,Z⟩:∃n,m.length=n+1:=⟨m.length-1,xB⟩;have i:zef=70368744177664:=rfl;rw[Z]at F;rcases L with⟨rfl,rfl⟩|⟨r,rfl,g,U,O⟩
 .refine⟨.sl H.next 0 (n+1) 1,H.alloc (.cells (m.map (.int .i64)) 0 true),append_nil Tryz.underlying23 jl qx qy af F (xI m) rfl jm jm,⟨H.next,nN,ik,K,cQ _⟩,rfl,fun k j=>fK,fun k j _=>fK,fun k j=>.inr ?_⟩;obtain⟨V,e⟩:=j;simp only[AV.sl.injEq]at e;omega
 .have W:gh false H 1 (.sl r 0 l.length 1)=H:=by
   unfold gh;simp only[g,bz,cX,gA];have:Nat.blt l.length l.length=false:=by
    cases Y:Nat.blt l.length l.length with
    |false=>rfl
    |true=>rw[gL]at Y;omega
   simp[this]
  refine⟨.sl H.next 0 (l.length+(n+1)) 1,(H.kill r).alloc (.cells (l.map (.int .i64)++m.map (.int .i64)) (0-0) true),?_,⟨H.next,nN,?_,K,cQ _⟩,rfl,fun k j=>?_,fun k j z=>?_,fun k j=>.inr ?_⟩
  .simp only[zen,Tryz.underlying23,jl,qx,qy,show kw Tryz.prog 23=true by kernel_rfl,F,xI,W,mH,bS,dl,jx,zfz,g,cX,bz,gA,dW];rw[ay ⟨jm,jm,trivial,trivial,cN _⟩];simp
  .show((H.kill r).alloc _).get (H.kill r).next=_
   rw[zcY,ay rfl];simp
  .rw[zcY,ah lA,zeI,ah ac]
  .rw[zcY,ah lA,zeI,ah (fun e=>z ⟨_,li⟩)]
  .obtain⟨V,e⟩:=j;simp only[AV.sl.injEq]at e;omega
theorem Xf{H:Hp}{v:AV}{l:List Int}{lo r imm:Nat}(s:Int)(L:m8 H v l lo)(K:lo<=H.next)(Z:H.get r=some (.cells [.int .i64 s] imm true))(z:l.length<2^39):
 ∃o H',zen Tryz.prog false H 23 23 v (.sl r 0 1 1)=some (o,H')/\oY H' o (l++[s]) lo/\H'.next=H.next+1/\(∀k,k<lo->H'.get k=H.get k)/\oX v o H H':=
 Xe L K (Gs (m:=[s]) Z) aE cp
theorem Xg(n:Nat):gF [.int .i64 0] n=(List.replicate n (0:Int)).map (.int .i64):=by
 induction n with
 |zero=>rfl
 |succ n ih=>simp only[gF,ih];simp[qI]
theorem Xh(n:Nat):gF [.bool false] n=(List.replicate n false).map .bool:=by
 induction n with
 |zero=>rfl
 |succ n ih=>simp only[gF,ih];simp[qI]
theorem Xi{H:Hp}(n c:Nat)(h:n<=c)(O:c<2^40):zeA Tryz.prog H 23 (.int .i64 n) (.int .i64 c)=some (.sl H.next 0 n 1,H.alloc (.cells ((List.replicate n (0:Int)).map (.int .i64)) 0 true)):=by
 have M:zef=70368744177664:=rfl;show zeA Tryz.prog H 23 (.int .i64 (Int.ofNat n)) (.int .i64 (Int.ofNat c))=_;simp only[zeA,Tryz.underlying23,jl,qx,qy];rw[ay ⟨h,iJ,iJ,rfl⟩,Xg]
theorem Gu{H:Hp}(n:Nat)(O:n<2^40):zeA Tryz.prog H 121 (.int .i64 n) (.int .i64 n)=some (.sl H.next 0 n 1,H.alloc (.cells ((List.replicate n false).map .bool) 0 true)):=by
 have M:zef=70368744177664:=rfl;show zeA Tryz.prog H 121 (.int .i64 (Int.ofNat n)) (.int .i64 (Int.ofNat n))=_;simp only[zeA,Tryz.underlying121,xj,EX,EY];rw[ay ⟨aM _,iJ,iJ,rfl⟩,Xh]
theorem splice_one(cs:List AV){o:Nat}(J:o<cs.length)(x:AV):splice cs o [x]=cs.set o x:=by
 rw[Ez,F0,ay J];simp
theorem uV{H:Hp}{r o:Nat}{cs:List AV}(A:H.get r=some (.cells cs 0 true))(J:o<cs.length)(n:Int):zeP Tryz.prog H 3 (.ptr r o) (.int .i64 n)=some (H.set r (.cells (cs.set o (.int .i64 n)) 0 true)):=by
 rw[sg,A,jl,w1,cells_int,splice_one cs J,ay ⟨rfl,cN _,J,rfl⟩]
theorem Xj{H:Hp}{r o:Nat}{cs:List AV}(A:H.get r=some (.cells cs 0 true))(J:o<cs.length)(b:Bool):zeP Tryz.prog H 4 (.ptr r o) (.bool b)=some (H.set r (.cells (cs.set o (.bool b)) 0 true)):=by
 rw[sg,A,xj,w1,EC,splice_one cs J,ay ⟨rfl,cN _,J,rfl⟩]
def uW(l:List Int):AV:=if l=[]then .nilS else zdR l
def l4(H:Hp)(v:AV)(l:List Int)(lo:Nat):Prop:=(v=.nilS/\l=[])\/(l≠[]/\eU H v l lo)
theorem l4.n{H:Hp}{v:AV}{l:List Int}{lo:Nat}(h:l4 H v l lo):ep H v l lo:=h.imp id fun h=>h.2
theorem l4.keep{H H':Hp}{v:AV}{l:List Int}{lo:Nat}(h:l4 H v l lo)(o:H.next<=H'.next)(A:∀k,zd9 v k->H'.get k=H.get k):l4 H' v l lo:=h.imp id fun h=>⟨h.1,h.2.keep o A⟩
theorem Gv(H:Hp)(n:Nat):∀l:List Int,iceL (iceV H (n+1)) (l.map (.int .i64))=some (l.map (.int .i64))
 |[]=>rfl
 |a::l=>by
  have:=Gv H n l;have e:iceV H (n+1) (.int .i64 a)=some (.int .i64 a):=rfl;simp only[dO,iceL,e,this]
theorem eU.iceV{H:Hp}{v:AV}{l:List Int}{lo:Nat}(h:eU H v l lo)(n:Nat):iceV H (n+2) v=some (zdR l):=by
 obtain⟨r,g,rfl,Z,_⟩:=h;have e:Ab.iceV H (n+2) (.sl r 0 l.length 1)=match H.get r with
  |some (.cells W _ _)=>match iceL (Ab.iceV H (n+1)) ((W.drop 0).take (l.length*1))with
   |some m=>if m.length=l.length*1 then some (.lst (zeg 1 l.length m))else none
   |none=>none
  |_=>none:=rfl
 rw[e,Z];simp only[dW,gA];rw[eF aE,Gv];simp only[cX,bS,Bx]
theorem l4.iceV{H:Hp}{v:AV}{l:List Int}{lo:Nat}(h:l4 H v l lo)(n:Nat):iceV H (n+2) v=some (uW l):=by
 rcases h with⟨rfl,rfl⟩|⟨o,h⟩
 .rfl
 .rw[h.iceV,uW,ah o]
theorem Xk(n:Nat)(l:List Int):bF (n+2) (uW l)=zdR l:=by
 unfold uW;split
 .rename_i h;subst h;rfl
 .show AV.lst ((l.map fun s=>[AV.int .i64 s]).map fun A=>A.map (bF (n+1)))=_;rw[oL];rfl
def tyEvB.tyF:=ad @cP (ad @b7 (ad @ly (ad @sB (ad @qA (@sD)))))
open tyEvB
noncomputable def sQ:{c:SC // aB 47 (Tryz.f184.body.getD .skip)=c}:=by
 refine⟨?_,?_⟩;rotate_left
 .simp only[Tryz.f184,a8,aB,zda,zc9,zdc,zdd,Nat.blt,Nat.ble];rfl
theorem Xl(l:List Int):(zdX l).all AV.one=true:=by
 rw[fT];intro x F;obtain⟨n,_,rfl⟩:=mE.1 F;rfl
theorem Gw{S:Nat->Prop}{H:Hp}:∀{vs:List AV}{W:List (List Int)},zdo (mY S H) vs W->vs.all AV.one=true
 |[],[],_=>rfl
 |v::vs,c::W,h=>by
  obtain⟨q,g,rfl,_⟩:=h.1;rw[mV,Gw h.2];rfl
theorem Xm{H:Hp}{q imm:Nat}{l:List Int}(h:H.get q=some (.cells (zdX l) imm true))(Y:0<l.length)(h1:l.length<2^30):zen Tryz.prog false H 33 33 .nilS (.sl q 0 l.length 1)=some (.sl H.next 0 l.length 1,H.alloc (.cells (zdX l) 0 true)):=by
 obtain⟨n,Z⟩:∃n,l.length=n+1:=⟨l.length-1,ac⟩;have F:zeN H 1 (.sl q 0 l.length 1)=some (n+1,zdX l):=by
  have:=lX (H:=H) (r:=q) (o:=0) (n:=l.length) (z:=1) (s:=1) h (by rw[dW,iS,uD];omega);rw[this,dW,eF (by rw[uD];omega),Z]
 have:=append_nil (P:=Tryz.prog) (keep:=false) (H:=H) (t:=33) (u:=33) Tryz.underlying33 uH AR AS af F (Xl l) rfl mU mU;rw[this,<-Z]
theorem Xn{H:Hp}{q imm:Nat}{vs:List AV}(h:H.get q=some (.cells vs imm true))(W:vs.all AV.one=true)(Y:0<vs.length)(h1:vs.length<2^30):zen Tryz.prog false H 58 58 .nilS (.sl q 0 vs.length 1)=some (.sl H.next 0 vs.length 1,H.alloc (.cells vs 0 true)):=by
 obtain⟨n,Z⟩:∃n,vs.length=n+1:=⟨vs.length-1,ac⟩;have F:zeN H 1 (.sl q 0 vs.length 1)=some (n+1,vs):=by
  have:=lX (H:=H) (r:=q) (o:=0) (n:=vs.length) (z:=1) (s:=1) h FY;rw[this,dW,eF ac,Z]
 have:=append_nil (P:=Tryz.prog) (keep:=false) (H:=H) (t:=58) (u:=58) Tryz.underlying58 uJ A1 A2 af F W rfl mU mU;rw[this,<-Z]
theorem Gx{cs:List AV}{j:Nat}{v:AV}(h:j<cs.length):splice cs j [v]=cs.set j v:=by
 rw[F0,ay h];simp[splice]
theorem Gy{H:Hp}{q j:Nat}{l:List Int}(x:Int)(A:H.get q=some (.cells (zdX l) 0 true))(O:j<l.length):zeP Tryz.prog H 2 (.ptr q j) (.int .i64 x)=some (H.set q (.cells (zdX (l.set j x)) 0 true)):=by
 rw[sg,A,uH];show(if 1=1/\0<=j/\j+1<=(zdX l).length/\[AV.int .i64 x].all AV.one=true then some (H.set q (.cells (splice (zdX l) j [.int .i64 x]) 0 true))else none)=_;refine(ay ⟨rfl,cN _,by rw[uD];omega,rfl⟩).trans ?_;rw[Gx (by rw[uD];exact O)];simp only[zdX,n0]
theorem Xo{H:Hp}{q j:Nat}{vs:List AV}(a b c d:Nat)(A:H.get q=some (.cells vs 0 true))(O:j<vs.length):zeP Tryz.prog H 33 (.ptr q j) (.sl a b c d)=some (H.set q (.cells (vs.set j (.sl a b c d)) 0 true)):=by
 rw[sg,A,uJ];show(if 1=1/\0<=j/\j+1<=vs.length/\[AV.sl a b c d].all AV.one=true then some (H.set q (.cells (splice vs j [.sl a b c d]) 0 true))else none)=_;refine(ay ⟨rfl,cN _,ac,rfl⟩).trans ?_;rw[Gx O]
theorem Gz(a b c d e f:AV):zdA 6 [a,b,c,d,e,f]=some (.agg [a,b,c,d,e,f]):=rfl
section
variable {tb:List En} (hT:EvT tb) {H:Hp}
include hT
theorem Xp{S:Nat->Prop}{v:AV}{s s2:S9}(hS:fP S H v s)(g:∀q,H.next<=q->S q){a i x:Int}(h:qu s a i x=some s2):zc2 Tryz.prog (zcW pls tb) 184 [v,.int .i64 a,.int .i64 i,.int .i64 x] H fun w H'=>fP S H' w s2/\Ext9 (fun _=>True) H H':=by
 have J:Plain (zcW pls tb) 184:=hT.plain dt;have hkeep:(zcW pls tb).keep 184=false:=rfl;have U:=hS;have np:∀E:aw,zcV E (.const (.pointer none))=some .nilP:=fun _=>rfl;obtain⟨p,cv,ov,rfl,hp⟩:=hS;unfold qu at h;split at h
 .rename_i ha;obtain⟨m,rfl⟩:∃m:Nat,a=m:=⟨a.toNat,ac⟩;rw[dQ]at h;obtain⟨l,hl,F⟩:=cj.1 h;simp only[aA]at F;obtain⟨q,imm,vs,q2,imm2,rfl,L,C,s1,s2',gq,z1,al,gv,s3,s4,g2,z2⟩:=Gm hp.cells hl;have gp:=hp.get;have x1:=Bv (q:=q) L;clear h;by_cases h0:i<0
  .rw[ay (.inl h0)]at F;subst F;clear C;refine zf (M:=47) (rs:=[.tmp 8]) (J.call _) J.ice J.froz Tryz.func184 rfl rfl sQ.2 rfl ?_;dsimp only[sQ,zcX,Nat.reduceAdd];repeat' (first
    |(apply zcP ?_;clear hK K)|apply Ry.o ?_|apply bl ?_|(apply aT (fun Z I=>?_) (fun Z I=>?_)<;>try(cases Z;done))|(apply az (fun z V=>?_) (fun z V=>?_)<;>try(cases z;done))|apply ak ?_|(apply zcQ fun K hK=>?_)|apply zcR ?_|apply am ?_)
   all_goals (refine⟨zcT,_,zcU,?_⟩;try simp only[zcS])
   exact⟨U,Ext9.refl _ _⟩
  obtain⟨j,rfl⟩:∃j:Nat,i=j:=⟨i.toNat,ac⟩;by_cases h1:(l.length:Int)<=j
  .rw[ay (.inr h1)]at F;subst F;clear C;refine zf (M:=47) (rs:=[.tmp 8]) (J.call _) J.ice J.froz Tryz.func184 rfl rfl sQ.2 rfl ?_;dsimp only[sQ,zcX,Nat.reduceAdd];repeat' (first
    |(apply zcP ?_;clear hK K)|apply Ry.o ?_|apply bl ?_|(apply aT (fun Z I=>?_) (fun Z I=>?_)<;>try(cases Z;done))|(apply az (fun z V=>?_) (fun z V=>?_)<;>try(cases z;done))|apply ak ?_|(apply zcQ fun K hK=>?_)|apply zcR ?_|apply am ?_)
   all_goals (refine⟨zcT,_,zcU,?_⟩;try simp only[zcS])
   exact⟨U,Ext9.refl _ _⟩
  .rw[ah ac]at F;have x2:=Bw (q:=H.next) (n:=l.length) (m:=j) ac;have ap1:=Xm g2 ac z2;have st1:=Gy (H:=H.alloc (.cells (zdX l) 0 true)) (q:=H.next) (j:=j) x iu ac;have y1:(p == H.next)=false:=zc7 (by have:=hp.lt;omega);have y2:(p == H.next+1)=false:=zc7 (by have:=hp.lt;omega);obtain⟨o1,o2⟩:=hp.out.one;clear C;refine zf (M:=47) (rs:=[.tmp 8]) (J.call _) J.ice J.froz Tryz.func184 rfl rfl sQ.2 rfl ?_;dsimp only[sQ,zcX,Nat.reduceAdd];have gh0:=@Gz;repeat' (first
    |(apply zcP ?_;clear hK K)|apply Ry.o ?_|apply bl ?_|(apply aT (fun Z I=>?_) (fun Z I=>?_)<;>try(cases Z;done))|(apply az (fun z V=>?_) (fun z V=>?_)<;>try(cases z;done))|apply ak ?_|(apply zcQ fun K hK=>?_)|apply zcR ?_|apply am ?_)
   generalize A:Hp.set (Hp.alloc (Hp.set (H.alloc _) _ _) _) _ _=W;have nb:H.next+2<=W.next:=uP
   have kb:∀r,r<H.next->W.get r=H.get r:=fun r hr=>by
    rw[<-A];simp only[aX,zcY,zdm,zc6,ah (show ¬r=H.next by omega),ah (show ¬r=H.next+1 by omega)]
   have gb0:W.get H.next=some (.cells (zdX (l.set j x)) 0 true):=by
    rw[<-A];simp only[aX,zcY,zdm,zc6,ah (show ¬H.next=H.next+1 by omega),bS]
   have gb1:W.get (H.next+1)=some (.cells [.sl q 0 vs.length 1,ov,.int .i64 s.fuel,.int .i64 s.ed,.int .i64 s.code,.int .i64 s.last] 0 true):=by rw[<-A,aX,ay dt]
   clear A st1 ap1;have ap2:=Xn (H:=W) ((kb q s2').trans gq) (Gw al) ac z1;have x3:=Bv (q:=W.next) L;have st2:∀O:Hp,O.get W.next=some (.cells vs 0 true)->zeP Tryz.prog O 33 (.ptr W.next m) (.sl H.next 0 l.length 1)=some (O.set W.next (.cells (vs.set m (.sl H.next 0 l.length 1)) 0 true)):=fun O Z=>Xo _ _ _ _ Z L
   have y3:(H.next+1 == W.next)=false:=zc7 ac;have y4:(W.next == H.next+1)=false:=zc7 ac;repeat' (first
    |(apply zcP ?_;clear hK K)|apply Rx.o ?_|apply bE ?_|apply ak ?_|(apply zcQ fun K hK=>?_)|apply zcR ?_|apply am ?_)
   all_goals (refine⟨zcT,_,zcU,?_⟩;try simp only[zcS])
   generalize o:Hp.set _ W.next _=Y
   have nc:W.next+1<=Y.next:=sJ
   have kc:∀r,r<W.next->r≠H.next+1->Y.get r=W.get r:=fun r hr h2=>by
    rw[<-o];simp only[aX,zcY,zdm,zc6,ah (show ¬r=W.next by omega),ah h2]
   have gc1:Y.get (H.next+1)=some (.cells [.sl W.next 0 vs.length 1,ov,.int .i64 s.fuel,.int .i64 s.ed,.int .i64 s.code,.int .i64 s.last] 0 true):=by
    rw[<-o];simp only[aX,zcY,zdm,zc6,ah (show ¬H.next+1=W.next by omega),bS]
   have gc2:Y.get W.next=some (.cells (vs.set m (.sl H.next 0 l.length 1)) 0 true):=xC
   clear o;subst F;have E:Ext9 (fun _=>True) H Y:=⟨ac,fun r _ h=>by rw[kc r ac ac];exact kb r h⟩;have ES:Ext9 S H Y:=E.sub fun _ _ _=>trivial;refine⟨⟨H.next+1,_,_,rfl,⟨g _ ac,ac,gc1,.inr ⟨W.next,0,_,xD,g _ ac,ac,gc2,by rw[kK];exact z1,?_⟩,hp.out.keep ES⟩⟩,E⟩;exact zdo.set (al.mono fun a b h=>h.keep ES) ⟨H.next,0,xD,g _ (aM _),ac,by rw[kc _ ac ac];exact gb0,by rw[kK];exact z2⟩
 .cases h
end
end
section
structure Den9 (l:List Nd) (start:S9) (args:List Int) (D:List R9):Prop where
 len:D.length=l.length
 kids:∀(i:Nat) nd,l[i]?=some nd->∀k∈nd.kids,0<=k/\k<i
 ok:∀(i:Nat) nd,l[i]?=some nd->∃r,ig start args D nd=some r/\D[i]?=some r.known
structure Agr9 (res D:List R9):Prop where
 len:res.length=D.length
 ok:∀(j:Nat) r,res[j]?=some r->r.k=true->D[j]?=some r
theorem m9(Z:List R9)(i:Nat):zd8 Z (i:Int)=Z[i]?:=by rw[zd8,ay ac,dQ]
theorem xK{Z:List R9}{k:Int}(o:0<=k)(h:k<Z.length):∃r,zd8 Z k=some r:=by
 rw[zd8,ay o];exact⟨_,aO ac⟩
theorem Agr9.get{Z D:List R9}(h:Agr9 Z D){k:Int}{r:R9}(A:zd8 Z k=some r)(j:r.k=true):zd8 D k=some r:=by
 unfold zd8 at A⊢;split at A
 .rename_i o;rw[ay o];exact h.ok _ _ A j
 .cases A
theorem GA{Z:List R9}:∀{ks:List Int},(∀k∈ks,0<=k/\k<Z.length)->∃k,lY Z ks=some k/\((k=-1/\∀j∈ks,∃r,zd8 Z j=some r/\r.k=true)\/(k∈ks/\∃r,zd8 Z k=some r/\r.k=false))
 |[],_=>⟨-1,rfl,.inl ⟨rfl,fun j O=>by cases O⟩⟩
 |c::ks,h=>by
  obtain⟨o,i⟩:=h c e8;obtain⟨r,hr⟩:=xK o i;rw[lY,hr,ej];by_cases Y:r.k=true
  .rw[ay Y];obtain⟨k,e,g⟩:=GA (ks:=ks) fun k Y=>h k (fl _ Y)
   refine⟨k,e,?_⟩;rcases g with⟨e,g⟩|⟨g,m⟩
   .exact .inl ⟨e,fun j O=>by
     rcases fk.1 O with rfl|O
     .exact⟨r,hr,Y⟩
     .exact g j O⟩
   .exact .inr ⟨fl _ g,m⟩
  .rw[ah Y];exact⟨c,rfl,.inr ⟨e8,r,hr,by simpa using Y⟩⟩
theorem By{Z:List R9}{n:Nd}{j:Nat}{r:R9}(h:eR Z n j=some r):∃c,n.kids[j]?=some c/\zd8 Z c=some r:=by
 unfold eR at h;rw[cj]at h;exact h
theorem Xq{Z D:List R9}(h:Agr9 Z D){n:Nd}(Y:∀j∈n.kids,∃r,zd8 Z j=some r/\r.k=true)(j:Nat):eR Z n j=eR D n j:=by
 unfold eR;cases O:n.kids[j]? with
 |none=>rfl
 |some c=>
  obtain⟨r,i,g⟩:=Y c (jU O);rw[ej,ej,i,h.get i g]
theorem Xr{Z D:List R9}{start:S9}{args:List Int}{n:Nd}(W:n.op≠22)(h:∀j,eR Z n j=eR D n j):ig start args Z n=ig start args D n:=by
 have o:nU start Z n=nU start D n:=by unfold nU;simp only[h]
 unfold ig;rw[ah (c:=n.op=22) W,ah (c:=n.op=22) W];simp only[h,o]
theorem GB{l:List Nd}{start:S9}{args:List Int}{D Z:List R9}(hD:Den9 l start args D)(A:Agr9 Z D){i:Nat}{K:Nd}(m:l[i]?=some K):∃k,uE Z K=some k/\((k=-1/\ig start args Z K=ig start args D K)\/(k∈K.kids/\∃r,zd8 Z k=some r/\r.k=false)):=by
 obtain⟨r,hr,_⟩:=hD.ok i K m;have hlt:i<l.length:=by
  by_cases c:i<l.length
  .exact c
  .rw[fL ac]at m;cases m
 have M:∀k∈K.kids,0<=k/\k<Z.length:=fun k j=>by
  have:=hD.kids i K m k j;have:=A.len;have:=hD.len;omega
 have Y:K.op≠22->∃k,lY Z K.kids=some k/\((k=-1/\ig start args Z K=ig start args D K)\/(k∈K.kids/\∃r,zd8 Z k=some r/\r.k=false)):=fun W=>by
  obtain⟨k,e,h|h⟩:=GA M
  .exact⟨k,e,.inl ⟨h.1,Xr W (Xq A h.2)⟩⟩
  .exact⟨k,e,.inr h⟩
 unfold uE;by_cases h31:K.op=31
 .unfold ig at hr;rw[ah ac,ah ac,ay ac]at hr;cases hr
 rw[ah h31];by_cases W:K.op=22
 .rw[ay W];have hc:∀R,ig start args R K=(oO R K).bind (zd8 R):=fun R=>by
   unfold ig;rw[ah ac,ah ac,ah ac,ay W]
  rw[hc]at hr;obtain⟨k',L,h2⟩:=cj.1 hr;have h1':=L;unfold oO at L;obtain⟨zdg,g,F⟩:=cj.1 L;obtain⟨c,C,h6⟩:=By g;have U:=jU C;obtain⟨zc0,I⟩:=xK (M c U).1 (M c U).2;rw[C,ej,I,ej];by_cases j:zc0.k=true
  .have e:=A.get I j;rw[h6]at e;cases e;have hs:oO Z K=some k':=by
    unfold oO eR;rw[C,ej,I,ej];exact F
   have J:k'∈K.kids:=by
    split at F
    .exact jU F
    .exact jU F
   obtain⟨t,ht⟩:=xK (M k' J).1 (M k' J).2;rw[ay j,hs,ej,ht,ej];by_cases V:t.k=true
   .rw[ay V];refine⟨-1,rfl,.inl ⟨rfl,?_⟩⟩;rw[hc,hc,hs,h1',ej,ej,ht,A.get ht V]
   .rw[ah V];exact⟨k',rfl,.inr ⟨J,t,ht,r8⟩⟩
  .rw[ah j];exact⟨c,rfl,.inr ⟨U,zc0,I,by simpa using j⟩⟩
 rw[ah W];by_cases hg:K.op=27\/K.op=29\/K.op=30
 .rw[ay hg];have hc:∀R,ig start args R K=if K.op=30 then none else (nU start R K).bind fun s=>some ⟨false,0,some s⟩:=fun R=>by
   unfold ig;rw[ah ac,ah ac];by_cases O:K.op=30
   .rw[ay ac,ay O]
   .rw[ah ac,ah W,ah ac,ah ac,ah ac,ay ac,ah O]
  have O:K.op≠30:=fun e=>by rw[hc,ay e]at hr;cases hr
  rw[hc,ah O]at hr;obtain⟨s0,L,h2⟩:=cj.1 hr;have hn:∀R,nU start R K=(eR R K 0).bind fun r=>r.s.bind fun s=>if s.ed≠0 then some s else if K.op=27 then (eR R K 1).bind fun a=>some (if a.v≠0 then s else {s with ed:=2,code:=K.imm})else (eR R K 1).bind fun a=>some {s with out:=a.v::s.out}:=fun R=>by
   unfold nU;rw[ah ac];by_cases z:K.op=27
   .simp only[ah (show ¬K.op=28 by omega),ay z]
   .simp only[ah (show ¬K.op=28 by omega),ah z,ay (show K.op=29 by omega)]
  have h1n:=L;rw[hn]at L;obtain⟨zdg,g,F⟩:=cj.1 L;obtain⟨s,C,h6⟩:=cj.1 F;obtain⟨c,I,h8⟩:=By g;have U:=jU I;obtain⟨zc0,h9⟩:=xK (M c U).1 (M c U).2;have o:eR Z K 0=some zc0:=by unfold eR;rw[I,ej,h9]
  rw[o,ej];by_cases j:zc0.k=true
  .have e:=A.get h9 j;rw[h8]at e;cases e;rw[ay j,C,ej];by_cases he:s.ed≠0
   .rw[ay he];refine⟨-1,rfl,.inl ⟨rfl,?_⟩⟩;rw[hc,hc,ah O,hn,hn,g,o];simp only[ej,C,ay he];rw[ah O]
   .rw[ah he];exact Y W
  .rw[ah j];exact Y W
 rw[ah hg];exact Y W
def j5(Z:List R9):List Int->Nat
 |[]=>0
 |k::l=>(match zd8 Z k with
  |some r=>if r.k=true then 0 else 1
  |none=>0)+j5 Z l
structure Le9 (a b:List R9):Prop where
 len:b.length=a.length
 ok:∀(j:Nat) r,a[j]?=some r->r.k=true->b[j]?=some r
theorem Le9.get{a b:List R9}(h:Le9 a b){k:Int}{r:R9}(A:zd8 a k=some r)(j:r.k=true):zd8 b k=some r:=by
 unfold zd8 at A⊢;split at A
 .rename_i o;rw[ay o];exact h.ok _ _ A j
 .cases A
theorem Le9.refl(a:List R9):Le9 a a:=⟨rfl,fun _ _ h _=>h⟩
theorem Le9.trans{a b c:List R9}(h:Le9 a b)(h2:Le9 b c):Le9 a c:=⟨h2.len.trans h.len,fun j r e k=>h2.ok j r (h.ok j r e k) k⟩
theorem xL{a b:List R9}(h:Le9 a b):∀l,j5 b l<=j5 a l
 |[]=>aM _
 |k::l=>by
  have:=xL h l;rw[j5,j5];cases F:zd8 a k with
  |none=>
   have:zd8 b k=none:=by
    unfold zd8 at F⊢;split at F
    .rename_i o;rw[ay o];rw[DO]at F⊢;have:=h.len;omega
    .rename_i o;rw[ah o]
   rw[this];simpa using xL h l
  |some r=>
   by_cases j:r.k=true
   .rw[h.get F j];simp only[j,bS];omega
   .simp only[ah j];split
    .split<;>omega
    .omega
theorem Bz{a b:List R9}(h:Le9 a b){k:Int}{r r2:R9}(h1:zd8 a k=some r)(h2:r.k=false)(m:zd8 b k=some r2)(U:r2.k=true):∀{l:List Int},k∈l->j5 b l<j5 a l
 |c::l,M=>by
  rw[j5,j5];rcases fk.1 M with rfl|M
  .have:=xL h l;rw[h1,m];simp only[h2,U,bS,ct,cb];omega
  .have:=Bz h h1 h2 m U M;have:=xL h [c];rw[j5,j5,j5,j5]at this;simp only[mA]at this;omega
section
variable {l:List Nd} {start:S9} {args:List Int} {D:List R9}
def GC(l:List Nd)(start:S9)(args:List Int)(D:List R9)(i:Nat):Prop:=∀res,Agr9 res D->∃O,Agr9 O D/\(∃r,D[i]?=some r/\r.k=true/\O[i]?=some r)/\Le9 res O/\∀m (st:List Int) G,st.length+i<2^20->zeE l start args m O st=some G->∃I,zeE l start args I res ((i:Int)::st)=some G
theorem xM{Z:List R9}{i:Int}{r:R9}(h:zd8 Z i=some r)(j:r.k=true)(m:Nat)(st:List Int):zeE l start args (m+1) Z (i::st)=zeE l start args m Z st:=by
 rw[zeE,h,ej,ay j]
theorem Xs(hD:Den9 l start args D){i:Nat}{nd:Nd}(C:l[i]?=some nd)(ih:∀j,j<i->GC l start args D j):∀u res,j5 res nd.kids<=u->Agr9 res D->(∃r,res[i]?=some r/\r.k=false)->∃Y,Agr9 Y D/\(∃r,D[i]?=some r/\r.k=true/\Y[i]?=some r)/\Le9 res Y/\∀m (st:List Int) G,st.length+i<2^20->zeE l start args m Y st=some G->∃m',zeE l start args m' res ((i:Int)::st)=some G:=by
 intro u;induction u with
 |zero=>
  intro res hu I ⟨r,hr,Z⟩;obtain⟨k,e,h|⟨hm,r2,A,h3⟩⟩:=GB hD I C
  .obtain⟨W,h4,h5⟩:=hD.ok i nd C;have M:=I.len;have J:i<res.length:=by
    by_cases c:i<res.length
    .exact c
    .rw[fL ac]at hr;cases hr
   have F:(res.set i W.known)[i]?=some W.known:=by rw[mB,ay rfl,ay J]
   have g:∀j,j≠i->(res.set i W.known)[j]?=res[j]?:=fun j O=>by rw[mB,ah (Ne.symm O)]
   refine⟨res.set i W.known,⟨by rw[kK];exact M,fun j r' O V=>?_⟩,⟨W.known,h5,rfl,F⟩,⟨xD,fun j r' O V=>?_⟩,fun m st G hs hG=>⟨m+2,?_⟩⟩
   .by_cases c:j=i
    .subst c;rw[F]at O;cases O;exact h5
    .rw[g j c]at O;exact I.ok j r' O V
   .by_cases c:j=i
    .subst c;rw[hr]at O;cases O;rw[Z]at V;cases V
    .rw[g j c];exact O
   .rw[zeE,m9,hr,ej,ah (by rw[Z];simp),dQ,C,ej,e,ej,ah ac,h.2,h4,ej];rw[xM (r:=W.known) (by rw[m9];exact F) rfl];exact hG
  .have:=Bz (l:=nd.kids) (b:=res.map fun r=>{r with k:=true}) (a:=res) ⟨aE,fun j r O V=>by rw[ea,O];cases r;cases V;rfl⟩ A h3 (r2:={r2 with k:=true}) (by
    unfold zd8 at A⊢;split at A
    .rename_i h0;rw[ay h0,ea,A];rfl
    .cases A) rfl hm
   omega
 |succ u ihu=>
  intro res hu I hr;obtain⟨k,e,h|⟨hm,r2,A,h3⟩⟩:=GB hD I C
  .obtain⟨r,hr,Z⟩:=hr;obtain⟨W,h4,h5⟩:=hD.ok i nd C;have M:=I.len;have J:i<res.length:=by
    by_cases c:i<res.length
    .exact c
    .rw[fL ac]at hr;cases hr
   have F:(res.set i W.known)[i]?=some W.known:=by rw[mB,ay rfl,ay J]
   have g:∀j,j≠i->(res.set i W.known)[j]?=res[j]?:=fun j O=>by rw[mB,ah (Ne.symm O)]
   refine⟨res.set i W.known,⟨by rw[kK];exact M,fun j r' O V=>?_⟩,⟨W.known,h5,rfl,F⟩,⟨xD,fun j r' O V=>?_⟩,fun m st G hs hG=>⟨m+2,?_⟩⟩
   .by_cases c:j=i
    .subst c;rw[F]at O;cases O;exact h5
    .rw[g j c]at O;exact I.ok j r' O V
   .by_cases c:j=i
    .subst c;rw[hr]at O;cases O;rw[Z]at V;cases V
    .rw[g j c];exact O
   .rw[zeE,m9,hr,ej,ah (by rw[Z];simp),dQ,C,ej,e,ej,ah ac,h.2,h4,ej];rw[xM (r:=W.known) (by rw[m9];exact F) rfl];exact hG
  .obtain⟨zd3,k1⟩:=hD.kids i nd C k hm;obtain⟨j,rfl⟩:∃j:Nat,k=j:=⟨k.toNat,ac⟩;obtain⟨U,o,⟨q,q1,q2,q3⟩,z,hst⟩:=ih j ac res I;have hlt:=Bz z A h3 (by rw[m9];exact q3) q2 hm;obtain⟨r,hr,Z⟩:=hr;have L:∀m' (st:List Int) G,st.length<2^20->zeE l start args m' res ((j:Int)::(i:Int)::st)=some G->∃m,zeE l start args m res ((i:Int)::st)=some G:=fun m' st G hs hG=>⟨m'+1,by
    rw[zeE,m9,hr,ej,ah (by rw[Z];simp),dQ,C,ej,e,ej,ay ac,ay hs];exact hG⟩
   have hex:∃zc0,U[i]?=some zc0:=by
    have:=z.len;have J:i<res.length:=by
     by_cases c:i<res.length
     .exact c
     .rw[fL ac]at hr;cases hr
    exact⟨_,aO ac⟩
   obtain⟨zc0,K⟩:=hex;by_cases c1:zc0.k=true
   .refine⟨U,o,⟨zc0,o.ok i zc0 K c1,c1,K⟩,z,fun m st G hs hG=>?_⟩;obtain⟨zeo,e1⟩:=hst (m+1) ((i:Int)::st) G Bm (by rw[xM (r:=zc0) (by rw[m9];exact K) c1];exact hG);exact L zeo st G ac e1
   .obtain⟨res2,hA2,hq,hle2,hst2⟩:=ihu U ac o ⟨zc0,K,by simpa using c1⟩;refine⟨res2,hA2,hq,z.trans hle2,fun m st G hs hG=>?_⟩;obtain⟨zeo,e1⟩:=hst2 m st G hs hG;obtain⟨m2,e2⟩:=hst zeo ((i:Int)::st) G Bm e1;exact L m2 st G ac e2
theorem GD(L:Den9 l start args D):∀i,i<l.length->GC l start args D i:=by
 intro i;induction i using Nat.strongRecOn with
 |ind i ih=>
  intro C res J;have o:∃zc0,res[i]?=some zc0:=⟨_,aO (by have:=J.len;have:=L.len;omega)⟩;obtain⟨zc0,Y⟩:=o;by_cases c1:zc0.k=true
  .exact⟨res,J,⟨zc0,J.ok i zc0 Y c1,c1,Y⟩,Le9.refl _,fun m st G K hG=>⟨m+1,by rw[xM (r:=zc0) (by rw[m9];exact Y) c1];exact hG⟩⟩
  .exact Xs L (aO C) (fun j O=>ih j O ac) _ res (aM _) J ⟨zc0,Y,by simpa using c1⟩
theorem Xt(L:Den9 l start args D):Agr9 (List.replicate l.length zfK) D:=⟨by rw[jn,L.len],fun j r O Z=>by
 rw[mX]at O;split at O
 .cases O;cases Z
 .cases O⟩
theorem Xu{g:Gr}(W:g.nodes.length<=2000)(Z:Den9 g.nodes start args D){i j:Nat}(C:g.state=i)(V:i<g.nodes.length)(J:g.value=j)(Y:j<g.nodes.length){ri o:R9}{s:S9}(h1:D[i]?=some ri)(h2:ri.s=some s)(F:D[j]?=some o):∃n m,AJ n m g start args=some (lZ s (if s.ed=0 then o.v else 0)):=by
 obtain⟨res,A,⟨r,z,q2,q3⟩,hle,K⟩:=GD Z i V _ (Xt Z);rw[h1]at z;cases z;obtain⟨n,hn⟩:=K 1 [] res (by rw[jx];omega) (by rw[zeE]);obtain⟨O,hA2,⟨r',U,p2,p3⟩,M,I⟩:=GD Z j Y _ A;rw[F]at U;cases U;obtain⟨m,hm⟩:=I 1 [] O (by rw[jx];omega) (by rw[zeE]);refine⟨n,m,?_⟩;rw[AJ,C,hn,ej,m9,q3,ej,h2,ej];by_cases L:s.ed=0
 .rw[ay L,ay L,J,hm,ej,m9,p3,ej]
 .rw[ah L,ah L]
end
def tyEvC.tyF:=ad @cP (ad @b7 (ad @lw (ad @ei (ad @fd (ad @jE (ad @ly (ad @sB (ad @oS (ad @qz (ad @qA (ad @sD (ad @qC (ad @sE (ad @qD (ad @qE (ad @qF (ad @Fy (@Gz))))))))))))))))))
open tyEvC
noncomputable def lC:{c:SC // aB 112 (Tryz.f153.body.getD .skip)=c}:=by
 refine⟨?_,?_⟩;rotate_left
 .simp only[Tryz.f153,a8,aB,zda,zc9,zdc,zdd,Nat.blt,Nat.ble];rfl
theorem Fr9.kid{c:Cx9}{H:Hp}{rows:List (List AV)}{Z:List R9}(Y:Fr9 c H rows Z){n:Nd}{j:Nat}{r:R9}(h:eR Z n j=some r):∃(m:Nat) (J:AV),n.kids[j]?=some (m:Int)/\zd8 Z m=some r/\m<Z.length/\iK c.S H J r.s/\zdn Tryz.prog 127 (.sl c.rp 0 Z.length 4) (.int .i64 (m:Int))=some (.ptr c.rp (m*4))/\∀H',Fr9 c H' rows Z->At9 c m r J H':=by
 obtain⟨k,i,g⟩:=By h;obtain⟨m,rfl⟩:∃m:Nat,k=m:=⟨k.toNat,by obtain⟨_,o,_⟩:=Y.get g;omega⟩;obtain⟨J,a,b,d,e⟩:=Y.at g;exact⟨m,J,i,g,a,b,d,e⟩
theorem Xv{S:Nat->Prop}{H:Hp}{v:AV}{l:List Int}(h:i7 S H v l)(a:Int):zeb Tryz.prog 136 [(0,.int .i64 a),(1,v)]=some (.agg [.int .i64 a,v]):=by
 cases l with
 |nil=>rw[show v=.nilP from h];kernel_rfl
 |cons n l=>obtain⟨q,w,rfl,_⟩:=h;kernel_rfl
section
variable {tb:List En} (hT:EvT tb) {c:Cx9} {H:Hp} {rows:List (List AV)} {res:List R9}
include hT
theorem Xw(U:Fr9 c H rows res){n:Nd}(hl:n.kids.length<2^30){s2:S9}(h:nU c.start res n=some s2):zc2 Tryz.prog (zcW pls tb) 153 [.ptr c.xp 0,.agg n.cells] H fun w H'=>fP c.S H' w s2/\Ext9 (fun _=>True) H H':=by
 have J:Plain (zcW pls tb) 153:=hT.plain dt;have np:∀E:aw,zcV E (.const (.pointer none))=some .nilP:=fun _=>rfl;obtain⟨i,g,L⟩:=n;simp only at hl;have ec:(Nd.mk i g L).cells=[.int .i64 i,.int .i64 g,.lst (L.map fun k=>[.int .i64 k])]:=rfl;rw[ec];have Z:=U.alloc (.cells [.int .i64 i,.int .i64 g,.lst (L.map fun k=>[.int .i64 k])] 0 true);have gx:=Z.x;unfold gW at gx;have lx:=U.lx;have lr:=U.lr;have y0:(c.xp == H.next)=false:=zc7 ac;have gn:(H.alloc (.cells [.int .i64 i,.int .i64 g,.lst (L.map fun k=>[.int .i64 k])] 0 true)).get H.next=some (.cells [.int .i64 i,.int .i64 g,.lst (L.map fun k=>[.int .i64 k])] 0 true):=iu
 have E1:Ext9 (fun _=>True) H (H.alloc (.cells [.int .i64 i,.int .i64 g,.lst (L.map fun k=>[.int .i64 k])] 0 true)):=⟨gm _,fun q _ j=>fK⟩;unfold nU at h;simp only at h;by_cases c26:i=26
 .subst c26;simp only[bS,aA]at h;subst h;have hst:=Z.st;refine zf (M:=112) (rs:=[.tmp 4]) (J.call _) J.ice J.froz Tryz.func153 rfl rfl lC.2 rfl ?_;dsimp only[lC,zcX,Nat.reduceAdd];repeat' (first
   |(apply zcP ?_;clear hK K)|apply Ry.o ?_|(apply az (fun z V=>?_) (fun z V=>?_)<;>try(cases z;done))|apply ak ?_|(apply zcQ fun K hK=>?_)|apply am ?_)
  all_goals (refine⟨zcT,_,zcU,?_⟩;try simp only[zcS])
  exact⟨hst,E1⟩
 rw[ah c26]at h;obtain⟨r,h1,h⟩:=cj.1 h;obtain⟨s,h2,h⟩:=cj.1 h;obtain⟨m,sv,zd3,_,hm,ho,ix,hA⟩:=U.kid h1;simp only at zd3;rw[h2]at ho;have ho1:fP c.S (H.alloc (.cells [.int .i64 i,.int .i64 g,.lst (L.map fun k=>[.int .i64 k])] 0 true)) sv s:=xF ho (E1.sub fun _ _ _=>trivial);have a2:=(hA _ Z).l2;obtain⟨p,cv,ov,rfl,hp⟩:=ho1;have gp:=hp.get;obtain⟨p1,p2⟩:=hp.cells.one;obtain⟨p3,p4⟩:=hp.out.one;have plt:=hp.lt;rw[zc6]at plt;have y1:(p == H.next+1)=false:=zc7 ac;have y2:(H.next == H.next+1)=false:=zc7 ac;by_cases c28:i=28
 .subst c28;simp only[bS]at h;obtain⟨ra,h3,h⟩:=cj.1 h;obtain⟨rb,h4,h⟩:=cj.1 h;obtain⟨ma,sva,ka,_,hma,_,ixa,Y⟩:=U.kid h3;obtain⟨mb,svb,kb,_,hmb,_,ixb,hAb⟩:=U.kid h4;have aa:=(Y _ Z).l1;have ab:=(hAb _ Z).l1;simp only at ka kb;refine zf (M:=112) (rs:=[.tmp 4]) (J.call _) J.ice J.froz Tryz.func153 rfl rfl lC.2 rfl ?_;dsimp only[lC,zcX,Nat.reduceAdd];repeat' (first
   |(apply zcP ?_;clear hK K)|apply Ry.o ?_|(apply az (fun z V=>?_) (fun z V=>?_)<;>try(cases z;done))|apply ak ?_|(apply zcQ fun K hK=>?_)|(apply zdG 3 [(3,12),(5,12),(7,12),(10,12)] fun K hK=>?_)|(apply zdG 5 [(2,25),(6,25),(8,25),(10,25),(13,25),(17,25),(19,25),(21,25),(24,25)] fun K hK=>?_)|(apply zdB ?_;try intro _)|(apply zdJ ?_ ?_<;>clear hK K)|apply b4 ?_|apply zcR ?_|fail)
  .exact zdj
  refine a4 rfl a6 a7 ?_;simp only[cG];refine aZ ?_ (Xp hT ⟨p,cv,ov,rfl,hp⟩ (fun q j=>Z.up q j) h);rintro v H4 ⟨hv,E4⟩;dsimp only[zc5];have I:=Z.keep E4.next fun q j=>E4.get q trivial j
  have gx4:=I.x;unfold gW at gx4;have aa4:=(Y _ I).l1;have ab4:=(hAb _ I).l1;have gn4:=(E4.get _ trivial (show H.next<(H.alloc _).next from cQ _)).trans gn;have n4:=E4.next
  have hov:=hv.one;repeat' (first
   |apply Rx.o ?_|(apply zdB ?_;try intro _)|(apply zdJ ?_ ?_<;>clear hK K)|apply b4 ?_|apply am ?_)
  .exact zdj
  all_goals (refine⟨zcT,_,zcU,?_⟩;try simp only[zcS])
  exact⟨hv,E1.trans E4⟩
 rw[ah c28]at h;by_cases ce:s.ed=0
 .rw[ah ac]at h;by_cases c27:i=27
  .subst c27;rw[ay rfl]at h;obtain⟨ra,h3,h⟩:=cj.1 h;obtain⟨ma,sva,ka,_,hma,_,ixa,Y⟩:=U.kid h3;have aa:=(Y _ Z).l1;simp only at ka;simp only[aA]at h;by_cases cv0:ra.v=0
   .rw[ah ac]at h;subst h;refine zf (M:=112) (rs:=[.tmp 4]) (J.call _) J.ice J.froz Tryz.func153 rfl rfl lC.2 rfl ?_;dsimp only[lC,zcX,Nat.reduceAdd];repeat' (first
     |(apply zcP ?_;clear hK K)|apply Ry.o ?_|apply bl ?_|(apply az (fun z V=>?_) (fun z V=>?_)<;>try(cases z;done))|apply ak ?_|(apply zcQ fun K hK=>?_)|(apply zdG 3 [(3,12),(5,12),(7,12),(10,12)] fun K hK=>?_)|(apply zdG 10 [(3,12),(5,12),(7,12),(10,12)] fun K hK=>?_)|(apply zdG 13 [(1,3),(1,5)] fun K hK=>?_)|(apply zdB ?_;try intro _)|(apply zdJ ?_ ?_<;>clear hK K)|apply b4 ?_|apply zfc rfl ?_|apply ax ?_|apply zcR ?_|apply am ?_)
    .exact zdj
    .exact zdj
    .exact zdj
    all_goals (refine⟨zcT,_,zcU,?_⟩;try simp only[zcS])
    generalize o:Hp.set _ (H.next+1) _=O;have nc:H.next+2<=O.next:=sJ
    have gc:O.get (H.next+1)=some (.cells [cv,ov,.int .i64 s.fuel,.int .i64 2,.int .i64 g,.int .i64 s.last] 0 true):=xC;have F:Ext9 (fun _=>True) (H.alloc (.cells [.int .i64 27,.int .i64 g,.lst (L.map fun k=>[.int .i64 k])] 0 true)) O:=⟨uQ,fun r _ hr=>by
     rw[zc6]at hr;rw[<-o];simp only[aX,zcY,zc6,ah (show ¬r=H.next+1 by omega)]⟩
    clear o;exact⟨⟨H.next+1,cv,ov,rfl,⟨U.up _ ac,ac,gc,hp.cells.keep (F.sub fun _ _ _=>trivial),hp.out.keep (F.sub fun _ _ _=>trivial)⟩⟩,E1.trans F⟩
   .rw[ay cv0]at h;subst h;refine zf (M:=112) (rs:=[.tmp 4]) (J.call _) J.ice J.froz Tryz.func153 rfl rfl lC.2 rfl ?_;dsimp only[lC,zcX,Nat.reduceAdd];repeat' (first
     |(apply zcP ?_;clear hK K)|apply Ry.o ?_|(apply az (fun z V=>?_) (fun z V=>?_)<;>try(cases z;done))|apply ak ?_|(apply zcQ fun K hK=>?_)|(apply zdG 3 [(3,12),(5,12),(7,12),(10,12)] fun K hK=>?_)|(apply zdG 10 [(3,12),(5,12),(7,12),(10,12)] fun K hK=>?_)|(apply zdB ?_;try intro _)|(apply zdJ ?_ ?_<;>clear hK K)|apply b4 ?_|apply ax ?_|apply zcR ?_|apply am ?_)
    .exact zdj
    .exact zdj
    all_goals (refine⟨zcT,_,zcU,?_⟩;try simp only[zcS])
    exact⟨⟨p,cv,ov,rfl,hp⟩,E1⟩
  rw[ah c27]at h;by_cases c29:i=29
  .subst c29;rw[ay rfl]at h;obtain⟨ra,h3,h⟩:=cj.1 h;obtain⟨ma,sva,ka,_,hma,_,ixa,Y⟩:=U.kid h3;have aa:=(Y _ Z).l1;simp only at ka;simp only[aA]at h;subst h;refine zf (M:=112) (rs:=[.tmp 4]) (J.call _) J.ice J.froz Tryz.func153 rfl rfl lC.2 rfl ?_;dsimp only[lC,zcX,Nat.reduceAdd];repeat' (first
    |(apply zcP ?_;clear hK K)|apply Ry.o ?_|apply bl ?_|(apply az (fun z V=>?_) (fun z V=>?_)<;>try(cases z;done))|apply ak ?_|(apply zcQ fun K hK=>?_)|(apply zdG 3 [(3,12),(5,12),(7,12),(10,12)] fun K hK=>?_)|(apply zdG 17 [(3,18),(5,18),(7,18),(10,18),(14,18),(16,18)] fun K hK=>?_)|(apply zdB ?_;try intro _)|(apply zdJ ?_ ?_<;>clear hK K)|apply b4 ?_|apply ax ?_|apply zcR ?_|fail)
   .exact zdj
   generalize A:Hp.set (Hp.alloc (H.alloc _) _) (H.next+1) _=W;have nb:H.next+2<=W.next:=uP
   have gb:W.get (H.next+1)=some (.cells [cv,ov,.int .i64 s.fuel,.int .i64 0,.int .i64 s.code,.int .i64 s.last] 0 true):=Bn;have EB:Ext9 (fun _=>True) (H.alloc (.cells [.int .i64 29,.int .i64 g,.lst (L.map fun k=>[.int .i64 k])] 0 true)) W:=⟨uQ,fun r _ hr=>by
    rw[zc6]at hr;rw[<-A];simp only[aX,zcY,zc6,ah (show ¬r=H.next+1 by omega)]⟩
   clear A;have C:=Z.keep EB.next fun q j=>EB.get q trivial j
   have gxb:=C.x;unfold gW at gxb;have aab:=(Y _ C).l1;have gnb:=(EB.get _ trivial (show H.next<(H.alloc _).next from cQ _)).trans gn;have gpb:=(EB.get _ trivial hp.lt).trans gp;have y3:(H.next+1 == W.next)=false:=zc7 ac;have y4:(p == W.next)=false:=zc7 ac;have y5:(H.next == W.next)=false:=zc7 ac;have y6:(c.xp == W.next)=false:=zc7 ac;have y7:(c.rp == W.next)=false:=zc7 ac;have hbo:=Xv hp.out ra.v;have aabb:=(Y _ (C.alloc (.cells [.int .i64 ra.v,ov] 0 true))).l1;repeat' (first
    |(apply zcP ?_;clear hK K)|apply Ry.o ?_|apply bl ?_|apply ak ?_|(apply zcQ fun K hK=>?_)|(apply zdB ?_;try intro _)|(apply zdJ ?_ ?_<;>clear hK K)|apply b4 ?_|apply zfc rfl ?_|apply am ?_)
   .exact zdj
   all_goals (refine⟨zcT,_,zcU,?_⟩;try simp only[zcS])
   generalize o:Hp.set _ (H.next+1) _=O;have nc:W.next+1<=O.next:=sJ
   have gc:O.get (H.next+1)=some (.cells [cv,.ptr W.next 0,.int .i64 s.fuel,.int .i64 0,.int .i64 s.code,.int .i64 s.last] 0 true):=xC;have gd:O.get W.next=some (.cells [.int .i64 ra.v,ov] 0 true):=by
    rw[<-o];simp only[aX,zcY,ah (show ¬W.next=H.next+1 by omega),bS]
   have F:Ext9 (fun _=>True) (H.alloc (.cells [.int .i64 29,.int .i64 g,.lst (L.map fun k=>[.int .i64 k])] 0 true)) O:=⟨uQ,fun r _ hr=>by
    have hr2:=hr;rw[zc6]at hr2;rw[<-EB.get r trivial hr,<-o];simp only[aX,zcY,ah (show ¬r=H.next+1 by omega),ah (show ¬r=W.next by omega)]⟩
   clear o;refine⟨⟨H.next+1,cv,.ptr W.next 0,rfl,⟨U.up _ ac,ac,?_,hp.cells.keep (F.sub fun _ _ _=>trivial),⟨W.next,ov,rfl,U.up _ ac,ac,gd,hp.out.keep (F.sub fun _ _ _=>trivial)⟩⟩⟩,E1.trans F⟩;rw[gc,ce]
  .rw[ah c29]at h;cases h
 .rw[ay ce]at h;simp only[aA]at h;subst h;refine zf (M:=112) (rs:=[.tmp 4]) (J.call _) J.ice J.froz Tryz.func153 rfl rfl lC.2 rfl ?_;dsimp only[lC,zcX,Nat.reduceAdd];repeat' (first
   |(apply zcP ?_;clear hK K)|apply Ry.o ?_|(apply az (fun z V=>?_) (fun z V=>?_)<;>try(cases z;done))|apply ak ?_|(apply zcQ fun K hK=>?_)|(apply zdG 3 [(3,12),(5,12),(7,12),(10,12)] fun K hK=>?_)|(apply zdB ?_;try intro _)|(apply zdJ ?_ ?_<;>clear hK K)|apply b4 ?_|apply zcR ?_|apply am ?_)
  .exact zdj
  all_goals (refine⟨zcT,_,zcU,?_⟩;try simp only[zcS])
  exact⟨⟨p,cv,ov,rfl,hp⟩,E1⟩
end
end
end Go.Proofs.YtljebeflbbgibaaGreat
