/- Lemmas for the last file. -/
import Derived.Test.YtbflaciihaijgaaPEJ
set_option linter.all false
set_option maxHeartbeats 32000000
namespace Go.Ab
set_option maxRecDepth 20000
open Go
variable{qd:Prop}
def DE(h:qd:=by simp only[bj,bE];omega):=h
def Ae(h:qd:=by rw[<- C];rfl):=h
def Af(h:qd:=by rw[<- C];simp only[get_set,B4,bj,bE,Kv,Kw,Kx,Nat.add_assoc,Nat.reduceAdd,beq_self_eq_true,cond_true,cond_false,Nat.reduceBEq]):=h
def OB(h:qd:=by have:=h.2.1;have:=h.2.2.1;simp only[List.drop_zero];omega):=h
def HU(h:qd:=by simp only[cZ,m,Bool.false_and]):=h
end Go.Ab
namespace Go.Proofs.Ytbflaciihaijgaa
set_option maxRecDepth 20000
open Go Go.Ab Proofs.Try
variable{cfg:Cfg}{I:Hp->Prop}{g:FuncId}{q:Ex->Int->Bool}{H H':Hp}{vs:qt}{m:List (cc×Int)}
section
def tyW4a.tyF:=ad @cR (ad @dt (ad @fb (ad @eA (ad @fc (ad @fG (@ez))))))
open tyW4a
noncomputable def OC:{c:SC // aI 28 (f87.body.getD .skip)=c}:=by
 refine⟨?_,?_⟩;rotate_left
 .simp only[f87,bS,aI,bM,bI,bT,bU,Nat.blt,Nat.ble];rfl
noncomputable def OD:{c:SC // aI 39 (f81.body.getD .skip)=c}:=by
 refine⟨?_,?_⟩;rotate_left
 .simp only[f81,bS,aI,bM,bI,bT,bU,Nat.blt,Nat.ble];rfl
def xR(cfg:Cfg)(base:Nat)(I:Hp->Prop)(g:FuncId)(cap:qs)(q:Ex->Int->Bool):Prop:=
 ∀(x:Ex) (d:Int) (H:Hp),x.sz<2^60->base<=H.next->I H->aY prog cfg g (.agg x.cells::.int .i64 d::cap) H fun v H'=>v=.bool (q x d)/\FrB base H H'/\I H'
def uE(base:Nat)(I:Hp->Prop):Prop:=∀H H',I H->iM base H H'->I H'
abbrev qi:HB:=.cells [.int .i64 0,.int .i64 0,.ai [],.int .i64 0,.ah] 0 true
theorem xS{cfg:Cfg}(hw:zd0 cfg 87){base:Nat}{I:Hp->Prop}(hI:uE base I){g:FuncId}{cap:qs}{q:Ex->Int->Bool}(hq:xR cfg base I g cap q):
 ∀(n:Nat) (x:Ex),x.sz<n->∀(d:Int) (H:Hp),x.sz<2^60->base<=H.next->I H->aY prog cfg 87 [.agg x.cells,.int .i64 d,.bb g cap] H fun v H'=>v=.bool (mI q x d)/\FrB base H H'/\I H'
 |0,x,hx,_,_,_,_,_=>by omega
 |n+1,x,hx,d,H,hz,hbase,hi=>by
  refine bF (M:=28) (rs:=[.tmp 6]) (hw.call _) hw.aD hw.aq func87 rfl rfl OC.2 rfl ?_;dsimp only[OC,bA,Nat.reduceAdd];repeat' (first
   |(apply aj ?_;clear hK K)|apply Rx.o ?_|apply aE ?_|(apply aA (fun o Z=>?_) (fun o Z=>?_)<;>try(cases o;done))|apply ah ?_|(apply ai fun K hK=>?_)|apply ak ?_|apply am ?_|apply aq ?_|apply aw ?_)
  refine qc ?_;have J:FrB base H (H.alloc (.cells x.cells 0 true)):=(jc _ _).alloc _;refine bb ?_ (hq x d (H.alloc (.cells x.cells 0 true)) hz dL (hI _ _ hi ((pV _ _).alloc hbase _)));rintro v H1 ⟨rfl,C,V⟩;have hg1:H1.get H.next=some (.cells x.cells 0 true):=by
   rw[C.get _ hbase (by simp[bj]),aQ,ay rfl]
  have hn1:H.next<H1.next:=by have:=C.next;simp only[bj]at this;omega
  dsimp only[aZ];repeat' (first
   |(apply aj ?_;clear hK K)|apply Rx.o ?_|apply aE ?_|(apply aA (fun o Z=>?_) (fun o Z=>?_)<;>try(cases o;done))|apply ah ?_|(apply ai fun K hK=>?_)|apply ak ?_|apply am ?_|apply aq ?_|apply aw ?_)
  .all_goals refine qq ?_
   refine⟨?_,J.trans C,V⟩;rw[Gj];simp_all
  have hl:x.ak.length<2^60:=by have:=ph x.ak;have:=x.aM;omega
  refine pQ (fun i E Y=>jb q x.ak (cC (d+1))=jb q (x.ak.drop i) (cC (d+1))/\E.at 1=.int .i64 d/\E.at 2=.bb g cap/\E.at 15=.ao (x.ak.map Ex.cells)/\E.at 16=.int .i64 x.ak.length/\E.at 17=.int .i64 i/\FrB base H Y/\I Y) x.ak.length ?_ ?_
  .rintro i E Y hi2 ⟨hc,h1,h2,h15,h16,h17,U,O⟩;repeat' (first
    |(apply aj ?_;clear hK K)|apply Rx.o ?_|apply aE ?_|(apply aA (fun o Z=>?_) (fun o Z=>?_)<;>try(cases o;done))|apply ah ?_|(apply ai fun K hK=>?_)|apply ak ?_|apply am ?_|apply aq ?_|apply aw ?_)
   .have z:i<x.ak.length:=by simpa using o
    have hgx:x.ak[i]?=some x.ak[i]:=a0 z;repeat' (first
     |(apply aj ?_;clear hK K)|apply Rx.o ?_|apply aE ?_|(apply aA (fun o Z=>?_) (fun o Z=>?_)<;>try(cases o;done))|apply ah ?_|(apply ai fun K hK=>?_)|apply ak ?_|apply am ?_|apply aq ?_|apply aw ?_)
    have hxm:x.ak[i]∈x.ak:=cL z;have hsm:=ou hxm;have hsx:=x.aM;have m:FrB base Y ((Y.alloc qi).set Y.next (.cells x.ak[i].cells 0 true)):=((jc _ _).alloc _).set (.inl (aO _)) _;have hb2:base<=Y.next:=dq hbase (U.next)
    have hlow:iM base Y ((Y.alloc qi).set Y.next (.cells x.ak[i].cells 0 true)):=((pV _ _).alloc hb2 _).set hb2 _;refine qc ?_;refine bb ?_ (xS hw hI hq n x.ak[i] ac _ _ ac DE (hI _ _ O hlow));rintro v H3 ⟨rfl,L,j⟩;dsimp only[aZ];repeat' (first
     |(apply aj ?_;clear hK K)|apply Rx.o ?_|apply aE ?_|(apply aA (fun o Z=>?_) (fun o Z=>?_)<;>try(cases o;done))|apply ah ?_|(apply ai fun K hK=>?_)|apply ak ?_|apply am ?_|apply aq ?_|apply aw ?_)
    .all_goals refine qq ?_
     refine⟨?_,(U.trans m).trans L,j⟩;rw[Gj,hc,Cv q z];simp_all
    .refine⟨z,?_,eE,eE,eE,eE,?_,(U.trans m).trans L,j⟩
     .rw[hc,Cv q z];simp_all
     .simp only[jK,Nat.reduceBEq,jg,hT (show i<2^62 by omega)]
   .have hi3:i=x.ak.length:=by simp at o;omega
    all_goals refine qq ?_
    refine⟨?_,U,O⟩;rw[Gj,hc,hi3];simp_all[jb]
  .exact⟨rfl,eE,eE,eE,eE,eE,J.trans C,V⟩
end
section
def tyW4b.tyF:=ad @cR (ad @dt (ad @fb (ad @eA (ad @fc (@fG)))))
open tyW4b
def Ag{m:Type}(cfg:Cfg)(base:Nat)(I:m->Hp->Prop)(g:FuncId)(cap:qs)(q:St->Int->m->Bool×m):Prop:=
 ∀(x:St) (d:Int) (s:m) (H:Hp),x.sz<2^60->base<=H.next->I s H->aY prog cfg g (.agg x.cells::.int .i64 d::cap) H fun v H'=>v=.bool (q x d s).1/\FrB base H H'/\I (q x d s).2 H'
theorem xT{cfg:Cfg}(hw:zd0 cfg 81){σ:Type}{base:Nat}{I:σ->Hp->Prop}(hI:∀s,uE base (I s)){g:FuncId}{cap:qs}{q:St->Int->σ->Bool×σ}(hq:Ag cfg base I g cap q):
 ∀(n:Nat) (l:qD),bN l<n->∀(d:Int) (s:σ) (H:Hp),bN l<2^60->base<=H.next->I s H->aY prog cfg 81 [.ao (l.map St.cells),.int .i64 d,.bb g cap] H fun v H'=>v=.bool (eV q l d s).1/\FrB base H H'/\I (eV q l d s).2 H'
 |0,l,hx,_,_,_,_,_,_=>by omega
 |n+1,l,hx,d,s,H,hz,hbase,hi=>by
  refine bF (M:=39) (rs:=[.tmp 6]) (hw.call _) hw.aD hw.aq func81 rfl rfl OD.2 rfl ?_;dsimp only[OD,bA,Nat.reduceAdd];repeat' (first
   |(apply aj ?_;clear hK K)|apply Rx.o ?_|apply aE ?_|(apply aX (fun J Z=>?_) (fun J Z=>?_)<;>try(cases J;done))|(apply aA (fun o Y=>?_) (fun o Y=>?_)<;>try(cases o;done))|apply ah ?_|(apply ai fun K hK=>?_)|apply ak ?_|apply am ?_|apply aq ?_|apply aw ?_)
  have hl:l.length<2^60:=by have:=tR l;omega
  refine pQ (fun i E V=>∃s2,eV q l d s=eV q (l.drop i) d s2/\E.at 1=.int .i64 d/\E.at 2=.bb g cap/\E.at 9=.ao (l.map St.cells)/\E.at 10=.int .i64 l.length/\E.at 11=.int .i64 i/\FrB base H V/\I s2 V) l.length ?_ ?_
  .rintro i E V hi2 ⟨s2,hc,h1,h2,h9,h10,h11,U,hI2⟩;repeat' (first
    |(apply aj ?_;clear hK K)|apply Rx.o ?_|apply aE ?_|(apply aX (fun J Z=>?_) (fun J Z=>?_)<;>try(cases J;done))|(apply aA (fun o Y=>?_) (fun o Y=>?_)<;>try(cases o;done))|apply ah ?_|(apply ai fun K hK=>?_)|apply ak ?_|apply am ?_|apply aq ?_|apply aw ?_)
   .have z:i<l.length:=by simpa using o
    have hgx:l[i]?=some l[i]:=a0 z;repeat' (first
     |(apply aj ?_;clear hK K)|apply Rx.o ?_|apply aE ?_|(apply aX (fun J Z=>?_) (fun J Z=>?_)<;>try(cases J;done))|(apply aA (fun o Y=>?_) (fun o Y=>?_)<;>try(cases o;done))|apply ah ?_|(apply ai fun K hK=>?_)|apply ak ?_|apply am ?_|apply aq ?_|apply aw ?_)
    have hxm:l[i]∈l:=cL z;have hsm:=pi hxm;have hsx:=l[i].aM;generalize hx0:l[i]=x at *;have L:base<=V.next:=dq hbase U.next
    generalize C:(V.alloc _).set V.next _=H3
    have m:FrB base V H3:=by rw[<-C];exact((jc _ _).alloc _).set (.inl (aO _)) _
    have hlow:iM base V H3:=by rw[<-C];exact((pV _ _).alloc L _).set L _
    have hn3:V.next<H3.next:=by rw[<-C];simp only[bj,bE];omega
    have hg3:H3.get V.next=some (.cells x.cells 0 true):=by rw[<-C,a1,ay rfl]
    have hI3:=hI _ _ _ hI2 hlow;have hwd:=Ys q z d s2;rw[hx0,Yr]at hwd;rw[hwd]at hc;refine qc ?_;refine bb ?_ (hq x d s2 H3 ac ac hI3);rintro v H4 ⟨rfl,O,hI4⟩;generalize hq1:q x d s2=aK at *;obtain⟨ok1,s3⟩:=aK;have hg4:H4.get V.next=some (.cells x.cells 0 true):=by rw[O.get _ L hn3];exact hg3
    have hn4:V.next<H4.next:=mZ hn3 O.next
    dsimp only[aZ];cases ok1 with
    |false=>
     repeat' (first
      |(apply aj ?_;clear hK K)|apply Rx.o ?_|apply aE ?_|(apply aX (fun J Z=>?_) (fun J Z=>?_)<;>try(cases J;done))|(apply aA (fun o Y=>?_) (fun o Y=>?_)<;>try(cases o;done))|apply ah ?_|(apply ai fun K hK=>?_)|apply ak ?_|apply am ?_|apply aq ?_|apply aw ?_)
     all_goals refine qq ?_
     dsimp only at hc;rw[hc];exact⟨rfl,(U.trans m).trans O,hI4⟩
    |true=>
     repeat' (first
      |(apply aj ?_;clear hK K)|apply Rx.o ?_|apply aE ?_|(apply aX (fun J Z=>?_) (fun J Z=>?_)<;>try(cases J;done))|(apply aA (fun o Y=>?_) (fun o Y=>?_)<;>try(cases o;done))|apply ah ?_|(apply ai fun K hK=>?_)|apply ak ?_|apply am ?_|apply aq ?_|apply aw ?_)
     refine qc ?_;have hrec:=xT hw hI hq n x.a5 ac (cC (d+1)) s3 H4 ac ac hI4;refine bb ?_ hrec;rintro v H5 ⟨rfl,j,hI5⟩;generalize hq2:eV q x.a5 (cC (d+1)) s3=bB at *;obtain⟨ok2,s4⟩:=bB;have hg5:H5.get V.next=some (.cells x.cells 0 true):=by rw[j.get _ L hn4];exact hg4
     have hn5:V.next<H5.next:=mZ hn4 j.next
     dsimp only[aZ];cases ok2 with
     |false=>
      repeat' (first
       |(apply aj ?_;clear hK K)|apply Rx.o ?_|apply aE ?_|(apply aX (fun J Z=>?_) (fun J Z=>?_)<;>try(cases J;done))|(apply aA (fun o Y=>?_) (fun o Y=>?_)<;>try(cases o;done))|apply ah ?_|(apply ai fun K hK=>?_)|apply ak ?_|apply am ?_|apply aq ?_|apply aw ?_)
      all_goals refine qq ?_
      simp only[hq2]at hc;rw[hc];exact⟨rfl,((U.trans m).trans O).trans j,hI5⟩
     |true=>
      repeat' (first
       |(apply aj ?_;clear hK K)|apply Rx.o ?_|apply aE ?_|(apply aX (fun J Z=>?_) (fun J Z=>?_)<;>try(cases J;done))|(apply aA (fun o Y=>?_) (fun o Y=>?_)<;>try(cases o;done))|apply ah ?_|(apply ai fun K hK=>?_)|apply ak ?_|apply am ?_|apply aq ?_|apply aw ?_)
      refine qc ?_;have hrec2:=xT hw hI hq n x.a6 ac (cC (d+1)) s4 H5 ac ac hI5;refine bb ?_ hrec2;rintro v H6 ⟨rfl,hf6,hI6⟩;generalize hq3:eV q x.a6 (cC (d+1)) s4=r3 at *;obtain⟨ok3,s5⟩:=r3;dsimp only[aZ];have hf7:FrB base H H6:=(((U.trans m).trans O).trans j).trans hf6;cases ok3 with
      |false=>
       repeat' (first
        |(apply aj ?_;clear hK K)|apply Rx.o ?_|apply aE ?_|(apply aX (fun J Z=>?_) (fun J Z=>?_)<;>try(cases J;done))|(apply aA (fun o Y=>?_) (fun o Y=>?_)<;>try(cases o;done))|apply ah ?_|(apply ai fun K hK=>?_)|apply ak ?_|apply am ?_|apply aq ?_|apply aw ?_)
       all_goals refine qq ?_
       simp only[hq2,hq3]at hc;rw[hc];exact⟨rfl,hf7,hI6⟩
      |true=>
       repeat' (first
        |(apply aj ?_;clear hK K)|apply Rx.o ?_|apply aE ?_|(apply aX (fun J Z=>?_) (fun J Z=>?_)<;>try(cases J;done))|(apply aA (fun o Y=>?_) (fun o Y=>?_)<;>try(cases o;done))|apply ah ?_|(apply ai fun K hK=>?_)|apply ak ?_|apply am ?_|apply aq ?_|apply aw ?_)
       refine⟨z,s5,?_,eE,eE,eE,eE,?_,hf7,hI6⟩
       .simp only[hq2,hq3]at hc;exact hc
       .simp only[jK,Nat.reduceBEq,jg,hT (show i<2^62 by omega)]
   .have hi3:i=l.length:=by simp at o;omega
    all_goals refine qq ?_
    rw[hc,hi3];simp only[fU,eV];exact⟨trivial,U,hI2⟩
  .exact⟨s,rfl,eE,eE,eE,eE,eE,jc _ _,hi⟩
end
section
def tyW4c.tyF:=ad @cR (ad @dt (ad @fb (ad @eA (ad @fc (ad @fG (ad @ez (ad @ft (ad @l8 (@K1)))))))))
open tyW4c
noncomputable def OE:{c:SC // aI 24 (f82.body.getD .skip)=c}:=by
 refine⟨?_,?_⟩;rotate_left
 .simp only[f82,bS,aI,bM,bI,bT,bU,Nat.blt,Nat.ble];rfl
noncomputable def OF:{c:SC // aI 7 (f84.body.getD .skip)=c}:=by
 refine⟨?_,?_⟩;rotate_left
 .simp only[f84,bS,aI,bM,bI,bT,bU,Nat.blt,Nat.ble];rfl
noncomputable def OG:{c:SC // aI 32 (f121.body.getD .skip)=c}:=by
 refine⟨?_,?_⟩;rotate_left
 .simp only[f121,bS,aI,bM,bI,bT,bU,Nat.blt,Nat.ble];rfl
noncomputable def OH:{c:SC // aI 15 (f83.body.getD .skip)=c}:=by
 refine⟨?_,?_⟩;rotate_left
 .simp only[f83,bS,aI,bM,bI,bT,bU,Nat.blt,Nat.ble];rfl
theorem zbV(L:zd0 cfg 82){base rn rl:Nat}(C:rn<base)(O:rl<base)(I:rn≠rl)(m:Hp):
 Ag cfg base (fun(s:Int×Int) H=>H.get rn=some (.cells [.int .i64 s.1] 0 true)/\H.get rl=some (.cells [.int .i64 s.2] 0 true)/\∀r,r<base->r≠rn->r≠rl->H.get r=m.get r) 82 [.ptr rn 0,.ptr rl 0] ox:=by
 intro x d s H hz o ⟨j,i,J⟩;have e1:(rn == H.next)=false:=ca;have e2:(rl == H.next)=false:=ca;have e3:(rl == rn)=false:=ca;have e4:(rn == rl)=false:=ca;have e5:(H.next == rn)=false:=ca;have e6:(H.next == rl)=false:=ca;refine bF (M:=24) (rs:=[.tmp 6]) (L.call _) L.aD L.aq func82 rfl rfl OE.2 rfl ?_;dsimp only[OE,bA,Nat.reduceAdd];repeat' (first
  |(apply aj ?_;clear hK K)|apply Rx.o ?_|apply aE ?_|(apply aX (fun Y g=>?_) (fun Y g=>?_)<;>try(cases Y;done))|(apply aA (fun V Z=>?_) (fun V Z=>?_)<;>try(cases V;done))|apply ah ?_|(apply ai fun K hK=>?_)|apply am ?_|apply aq ?_)
 all_goals refine qq ?_
 all_goals (refine⟨?_,?_,?_,?_,?_⟩)
 all_goals first
  |(intro r q1 U z;simp only[a1,aQ,U,z,show ¬r=H.next by omega,bH];exact J r q1 U z)
  |exact(((jc _ _).alloc _).set (.inr C) _).set (.inr O) _
  |exact((jc _ _).alloc _).set (.inr C) _
  |(simp only[get_set,B4,ox, *,jg,sy,beq_self_eq_true,Lr,bC,bH];done)
  |(simp_all[ox,get_set,B4];done)
  |skip
def zbW(L:zd0 cfg 84){base:Nat}(C:uE base I):xR cfg base I 84 [] sF:=by
 intro x d H Z o z;refine bF (M:=7) (rs:=[.tmp 4]) (L.call _) L.aD L.aq func84 rfl rfl OF.2 rfl ?_;dsimp only[OF,bA,Nat.reduceAdd];repeat' (first
  |(apply aj ?_;clear hK K)|apply Rx.o ?_|apply ah ?_|(apply ai fun K hK=>?_)|apply aq ?_)
 all_goals refine qq ?_
 exact⟨rfl,(jc _ _).alloc _,C _ _ z ((pV _ _).alloc o _)⟩
theorem zbX(hw:zd0 cfg 121)(hwe:zd0 cfg 87){base j:Nat}(V:base<=j)(hI:uE base I){cap:qs}(hq:xR cfg base I g cap q)
 {O:Nat} (hr1:base<=O) (hr2:O<j) (H1:Hp) :
 Ag cfg j (fun(_:Unit) H=>I H/\H.get O=some (.cells [.bb g cap] 0 true)/\∀r,base<=r->r<j->H.get r=H1.get r) 121 [.ptr O 0] (pj q):=by
 intro x d s H hz hbase ⟨hi,hi3,hi1⟩;have hsz:=x.aM;have e1:(O == H.next)=false:=ca;have e2:(H.next == O)=false:=ca;refine bF (M:=32) (rs:=[.tmp 5]) (hw.call _) hw.aD hw.aq func121 rfl rfl OG.2 rfl ?_;dsimp only[OG,bA,Nat.reduceAdd];repeat' (first
  |(apply aj ?_;clear hK K)|apply Rx.o ?_|apply aE ?_|(apply aX (fun J Z=>?_) (fun J Z=>?_)<;>try(cases J;done))|(apply aA (fun o Y=>?_) (fun o Y=>?_)<;>try(cases o;done))|apply ah ?_|(apply ai fun K hK=>?_)|apply ak ?_|apply am ?_|apply aq ?_|apply aw ?_)
 have hIa:=hI _ _ hi ((pV base H).alloc (dq V hbase) (.cells x.cells 0 true));refine qc ?_;refine bb ?_ (xS hwe hI hq (x.aW.sz+1) x.aW ac 0 _ ac dL hIa);rintro v H2 ⟨rfl,hf2,hi2⟩;have hn2:H.next<H2.next:=by have:=hf2.next;simp only[bj]at this;omega
 have hg2:H2.get H.next=some (.cells x.cells 0 true):=by rw[hf2.get _ ac (by simp[bj]),aQ,ay rfl]
 have hr3:H2.get O=some (.cells [.bb g cap] 0 true):=by rw[hf2.get _ hr1 dL,aQ,af ac];exact hi3
 have hF2:FrB base H H2:=((jc _ _).alloc _).trans hf2;have C:∀r,base<=r->r<j->H2.get r=H1.get r:=fun r h1 h2=>by rw[hF2.get r h1 ac];exact hi1 r h1 h2
 dsimp only[aZ];repeat' (first
  |(apply aj ?_;clear hK K)|apply Rx.o ?_|apply aE ?_|(apply aX (fun J Z=>?_) (fun J Z=>?_)<;>try(cases J;done))|(apply aA (fun o Y=>?_) (fun o Y=>?_)<;>try(cases o;done))|apply ah ?_|(apply ai fun K hK=>?_)|apply ak ?_|apply am ?_|apply aq ?_|apply aw ?_)
 .refine qc ?_;refine bb ?_ (xS hwe hI hq (x.value.sz+1) x.value ac 0 _ ac ac hi2);rintro v H3 ⟨rfl,U,hi3'⟩;have hn3:H.next<H3.next:=mZ hn2 U.next
  have hg3:H3.get H.next=some (.cells x.cells 0 true):=by rw[U.get _ ac hn2];exact hg2
  have hr3b:H3.get O=some (.cells [.bb g cap] 0 true):=by rw[U.get _ hr1 ac];exact hr3
  have hF3:FrB base H H3:=hF2.trans U;have z:∀r,base<=r->r<j->H3.get r=H1.get r:=fun r h1 h2=>by rw[U.get r h1 ac];exact C r h1 h2
  dsimp only[aZ];repeat' (first
   |(apply aj ?_;clear hK K)|apply Rx.o ?_|apply aE ?_|(apply aX (fun J Z=>?_) (fun J Z=>?_)<;>try(cases J;done))|(apply aA (fun o Y=>?_) (fun o Y=>?_)<;>try(cases o;done))|apply ah ?_|(apply ai fun K hK=>?_)|apply ak ?_|apply am ?_|apply aq ?_|apply aw ?_)
  .all_goals refine qq ?_
   exact⟨by simp_all[pj],hF3.cm V,hi3',hr3b,z⟩
  have hl:x.args.length<2^60:=by have:=ph x.args;omega
  refine pQ (fun i E H2=>jb q x.args 0=jb q (x.args.drop i) 0/\E.at 2=.ptr O 0/\E.at 21=.ao (x.args.map Ex.cells)/\E.at 22=.int .i64 x.args.length/\E.at 23=.int .i64 i/\FrB base H H2/\I H2/\H2.get O=some (.cells [.bb g cap] 0 true)/\(∀r,base<=r->r<j->H2.get r=H1.get r)) x.args.length ?_ ?_
  .rintro i E H4 hi2 ⟨hc,h2,h21,h22,h23,hf4,hI4,hr4,L⟩;have hn4:=hf4.next
   have e3:(O == H4.next)=false:=ca;repeat' (first
    |(apply aj ?_;clear hK K)|apply Rx.o ?_|apply aE ?_|(apply aX (fun J Z=>?_) (fun J Z=>?_)<;>try(cases J;done))|(apply aA (fun o Y=>?_) (fun o Y=>?_)<;>try(cases o;done))|apply ah ?_|(apply ai fun K hK=>?_)|apply ak ?_|apply am ?_|apply aq ?_|apply aw ?_)
   .have m:i<x.args.length:=by simpa using o
    have hgx:x.args[i]?=some x.args[i]:=a0 m;repeat' (first
     |(apply aj ?_;clear hK K)|apply Rx.o ?_|apply aE ?_|(apply aX (fun J Z=>?_) (fun J Z=>?_)<;>try(cases J;done))|(apply aA (fun o Y=>?_) (fun o Y=>?_)<;>try(cases o;done))|apply ah ?_|(apply ai fun K hK=>?_)|apply ak ?_|apply am ?_|apply aq ?_|apply aw ?_)
    have hxm:x.args[i]∈x.args:=cL m;have hsm:=ou hxm;have hb4:base<=H4.next:=ac
    generalize hH5:(H4.alloc _).set H4.next _=H5
    have hf5:FrB base H4 H5:=by rw[<-hH5];exact((jc _ _).alloc _).set (.inl (aO _)) _
    have hlow5:iM base H4 H5:=by rw[<-hH5];exact((pV _ _).alloc hb4 _).set hb4 _
    have hn5:H4.next<H5.next:=by rw[<-hH5];simp only[bj,bE];omega
    refine qc ?_;refine bb ?_ (xS hwe hI hq (x.args[i].sz+1) x.args[i] ac 0 _ ac ac (hI _ _ hI4 hlow5));rintro v H6 ⟨rfl,hf6,hi6⟩;have hF6:FrB base H4 H6:=hf5.trans hf6;have hr6:H6.get O=some (.cells [.bb g cap] 0 true):=by rw[hF6.get _ hr1 ac];exact hr4
    have hold6:∀r,base<=r->r<j->H6.get r=H1.get r:=fun r h1 h2=>by rw[hF6.get r h1 ac];exact L r h1 h2
    dsimp only[aZ];repeat' (first
     |(apply aj ?_;clear hK K)|apply Rx.o ?_|apply aE ?_|(apply aX (fun J Z=>?_) (fun J Z=>?_)<;>try(cases J;done))|(apply aA (fun o Y=>?_) (fun o Y=>?_)<;>try(cases o;done))|apply ah ?_|(apply ai fun K hK=>?_)|apply ak ?_|apply am ?_|apply aq ?_|apply aw ?_)
    .all_goals refine qq ?_
     refine⟨?_,(hf4.trans hF6).cm V,hi6,hr6,hold6⟩;have:=Cv q m 0;simp_all[pj]
    .refine⟨m,?_,eE,eE,eE,?_,hf4.trans hF6,hi6,hr6,hold6⟩
     .rw[hc,Cv q m];simp_all
     .simp only[jK,Nat.reduceBEq,jg,hT (show i<2^62 by omega)]
   .have hi3:i=x.args.length:=by simp at o;omega
    all_goals refine qq ?_
    refine⟨?_,hf4.cm V,hI4,hr4,L⟩;rw[hi3]at hc;simp_all[pj,jb]
  .exact⟨rfl,eE,eE,eE,eE,hF3,hi3',hr3b,z⟩
 .all_goals refine qq ?_
  exact⟨by simp_all[pj],hF2.cm V,hi2,hr3,C⟩
end
section
def tyW4d.tyF:=ad @ez (ad @cR (ad @dt (ad @fb (ad @eA (ad @ft (ad @fc (ad @l8 (ad @fG (@K1)))))))))
open tyW4d
structure zfX (cfg:Cfg):Prop where
 we:zd0 cfg 87
 ws:zd0 cfg 81
 wx:zd0 cfg 83
 wx1:zd0 cfg 121
theorem OI(V:zfX cfg){base:Nat}(hI:uE base I){cap:qs}(hq:xR cfg base I g cap q)(x:Fu)(H:Hp)(hz:x.sz<2^60)(o:base<=H.next)(hi:I H):
 aY prog cfg 83 [.agg x.cells,.bb g cap] H fun v H'=>v=.bool (pm q x)/\FrB base H H'/\I H':=by
 have hw:=V.wx;have hsz:x.sz=1+x.name.length+dU x.params+dU x.aj+bN x.body+x.value.sz:=rfl;refine bF (M:=15) (rs:=[.tmp 4]) (hw.call _) hw.aD hw.aq func83 rfl rfl OH.2 rfl ?_;dsimp only[OH,bA,Nat.reduceAdd];repeat' (first
  |(apply aj ?_;clear hK K)|apply Rx.o ?_|(apply aX (fun J Z=>?_) (fun J Z=>?_)<;>try(cases J;done))|apply ah ?_|(apply ai fun K hK=>?_)|apply aq ?_)
 generalize C:(H.alloc (.cells x.cells 0 true)).alloc (.cells [.bb g cap] 0 true)=H1;have m:FrB base H H1:=by rw[<-C];exact((jc _ _).alloc _).alloc _
 have hl1:iM base H H1:=by rw[<-C];exact((pV _ _).alloc o _).alloc dL _
 have hn1:H1.next=H.next+2:=Ae
 have hga:H1.get H.next=some (.cells x.cells 0 true):=by rw[<-C,aQ,af (by simp[bj]),aQ,ay rfl]
 have hgb:H1.get (H.next+1)=some (.cells [.bb g cap] 0 true):=by rw[<-C,aQ,ay (by simp[bj])]
 refine qc ?_;refine bb ?_ (xS V.we hI hq (x.value.sz+1) x.value ac 0 H1 ac ac (hI _ _ hi hl1));rintro v Y ⟨rfl,U,O⟩;have hn2:=U.next
 have hga2:Y.get H.next=some (.cells x.cells 0 true):=by rw[U.get _ o ac];exact hga
 have j:Y.get (H.next+1)=some (.cells [.bb g cap] 0 true):=by rw[U.get _ ac ac];exact hgb
 dsimp only[aZ];repeat' (first
  |(apply aj ?_;clear hK K)|apply Rx.o ?_|(apply aX (fun J Z=>?_) (fun J Z=>?_)<;>try(cases J;done))|apply ah ?_|(apply ai fun K hK=>?_)|apply aq ?_)
 .refine qc ?_;refine bb ?_ (xT V.ws (base:=H.next+2) (I:=fun(_:Unit) H'=>I H'/\H'.get (H.next+1)=some (.cells [.bb g cap] 0 true)/\∀r,base<=r->r<H.next+2->H'.get r=Y.get r) ?_ (zbX V.wx1 V.we ac hI hq ac ac Y) (bN x.body+1) x.body ac 0 () Y ac ac ⟨O,j,fun _ _ _=>rfl⟩)
  .rintro v H3 ⟨rfl,L,hi3,hg3,z⟩;have hF3:FrB base Y H3:=⟨L.next,fun r h1 h2=>by
    by_cases hr:r<H.next+2
    .exact z r h1 hr
    .exact L.get r ac h2⟩
   dsimp only[aZ];repeat' (first
    |(apply aj ?_;clear hK K)|apply Rx.o ?_|(apply aX (fun J Z=>?_) (fun J Z=>?_)<;>try(cases J;done))|apply ah ?_|(apply ai fun K hK=>?_)|apply aq ?_)
   all_goals refine qq ?_
   exact⟨by simp_all[pm],(m.trans U).trans hF3,hi3⟩
  .intro _ Ha Hb ⟨h1,h2,h3⟩ i;exact⟨hI _ _ h1 (i.cm ac),by rw[i _ ac];exact h2,fun r q1 q2=>by rw[i _ q2];exact h3 r q1 q2⟩
 .all_goals refine qq ?_
  exact⟨by simp_all[pm],m.trans U,O⟩
end
section
def tyP4f.tyF:=ad @cR (ad @dt (ad @ft (ad @Cm (ad @Ge (ad @ez (ad @fb (ad @eA (ad @tO (ad @fc (ad @xq (@fG)))))))))))
open tyP4f
noncomputable def OJ:{c:SC // aI 26 (f92.body.getD .skip)=c}:=by
 refine⟨?_,?_⟩;rotate_left
 .simp only[f92,bS,aI,bM,bI,bT,bU,Nat.blt,Nat.ble];rfl
noncomputable def OK:{c:SC // aI 27 (f93.body.getD .skip)=c}:=by
 refine⟨?_,?_⟩;rotate_left
 .simp only[f93,bS,aI,bM,bI,bT,bU,Nat.blt,Nat.ble];rfl
noncomputable def OL:{c:SC // aI 49 (f94.body.getD .skip)=c}:=by
 refine⟨?_,?_⟩;rotate_left
 .simp only[f94,bS,aI,bM,bI,bT,bU,Nat.blt,Nat.ble];rfl
def zbY(l:qt)(a s:qw):bJ (rR l a) s=(bJ l s||bJ [a] s):=by
 unfold rR;split
 .rename_i h;rw[wd];by_cases e:s=a
  .rw[e,h];rfl
  .rw[iy e,pe]
 .rw[sU]
def OM(hw:zd0 cfg 92){r imm:Nat}{x:List qt}(hg:H.get r=some (.cells (x.map cM) imm true))(hr:r<H.next)(hx:Du x):
 aY prog cfg 92 [.sl r 0 x.length 1] H fun v H'=>v=.map H.next/\(∃l,H'.get H.next=some (.map (gw l))/\∀s,bJ l s=bJ x.flatten s)/\(∀k,k<H.next->H'.get k=H.get k)/\H.next<H'.next:=by
 obtain⟨hx1,hx2⟩:=hx;have hnm:=KA;refine bF (M:=26) (rs:=[.tmp 2]) (hw.call _) hw.aD hw.aq func92 rfl rfl OJ.2 rfl ?_;dsimp only[OJ,bA,Nat.reduceAdd];repeat' (first
  |(apply aj ?_;clear hK K)|apply Rx.o ?_|apply aE ?_|(apply aA (fun o g=>?_) (fun o g=>?_)<;>try(cases o;done))|apply ah ?_|(apply ai fun K hK=>?_)|apply ak ?_|apply am ?_|apply aq ?_|apply aw ?_)
 refine cA [2,3,9,10] [] 11 x.length (fun i E H2=>(∃l,H2.get H.next=some (.map (gw l))/\∀s,bJ l s=bJ (x.take i).flatten s)/\∀k,k<H.next->H2.get k=H.get k) eE ⟨⟨[],sP,fun s=>rfl⟩,fun k hk=>eG⟩ ?_;rintro i E H2 hi m Z z hsI ⟨⟨l,O,V⟩,L⟩;(try simp only[bp,bm,aU,aF,aW,Nat.reduceBEq,Nat.reduceAdd,Nat.reduceLeDiff,tyF, *]at m);(try simp only[bp,bm,aU,aF,aW,Nat.reduceBEq,Nat.reduceAdd,Nat.reduceLeDiff,tyF, *]at Z);(try simp only[bj,bE,cm,bO,Nat.reduceAdd]at z);repeat' (first
  |(apply aj ?_;clear hK K)|apply Rx.o ?_|apply aE ?_|(apply aA (fun o g=>?_) (fun o g=>?_)<;>try(cases o;done))|apply ah ?_|(apply ai fun K hK=>?_)|apply ak ?_|apply am ?_|apply aq ?_|apply aw ?_)
 .have U:i<x.length:=by simpa using o
  have hgx:x[i]?=some x[i]:=a0 U;have hsm:=hx2 _ (cL U);have hg2:H2.get r=some (.cells (x.map cM) imm true):=by rw[L r hr];exact hg
  have htk:(x.take (i+1)).flatten=(x.take i).flatten++x[i]:=by rw[ry,hgx,List.flatten_append];simp
  generalize x[i]=Y at *;repeat' (first
   |(apply aj ?_;clear hK K)|apply Ry.o ?_|apply ah ?_|(apply ai fun K hK=>?_)|apply ak ?_|apply am ?_|apply aq ?_|apply aw ?_)
  refine cA [2,3,9,10,11,15,16] [] 17 Y.length (fun j E H3=>(∃l,H3.get H.next=some (.map (gw l))/\∀s,bJ l s=bJ ((x.take i).flatten++Y.take j) s)/\∀k,k<H.next->H3.get k=H.get k) eE ⟨⟨l,O,fun s=>by rw[V,zG,jI]⟩,L⟩ ?_;clear O V l L hg2;rintro j E3 H3 hj m Z z hsI ⟨⟨l,O,V⟩,L⟩;(try simp only[bp,bm,aU,aF,aW,Nat.reduceBEq,Nat.reduceAdd,Nat.reduceLeDiff,tyF, *]at m);(try simp only[bp,bm,aU,aF,aW,Nat.reduceBEq,Nat.reduceAdd,Nat.reduceLeDiff,tyF, *]at Z);(try simp only[bj,bE,cm,bO,Nat.reduceAdd]at z);repeat' (first
   |(apply aj ?_;clear hK K)|apply Rx.o ?_|apply aE ?_|(apply aA (fun o g=>?_) (fun o g=>?_)<;>try(cases o;done))|apply ah ?_|(apply ai fun K hK=>?_)|apply ak ?_|apply am ?_|apply aq ?_|apply aw ?_)
  .have J:j<Y.length:=by simpa using o
   have I:Y[j]?=some Y[j]:=a0 J;have hup:=HH O Y[j];have C:Y.take (j+1)=Y.take j++[Y[j]]:=by rw[ry,I];rfl
   repeat' (first
    |(apply aj ?_;clear hK K)|apply Rx.o ?_|apply aE ?_|(apply aA (fun o g=>?_) (fun o g=>?_)<;>try(cases o;done))|apply ah ?_|(apply ai fun K hK=>?_)|apply ak ?_|apply am ?_|apply aq ?_|apply aw ?_)
   refine⟨ac,a2,a2,ce,NG,?_⟩;refine⟨⟨rR l Y[j],zX,fun s=>?_⟩,fun k hk=>by rw[a1,af ac];exact L k hk⟩;rw[zbY,V,C,<-lT,sU ((x.take i).flatten++Y.take j)]
  .have hje:j=Y.length:=by simp at o;omega
   repeat' (first
    |(apply aj ?_;clear hK K)|apply Rx.o ?_|apply aE ?_|(apply aA (fun o g=>?_) (fun o g=>?_)<;>try(cases o;done))|apply ah ?_|(apply ai fun K hK=>?_)|apply ak ?_|apply am ?_|apply aq ?_|apply aw ?_)
   refine⟨ac,a2,a2,ce,tX,?_⟩;exact⟨⟨l,O,fun s=>by rw[V,htk,hje,yD]⟩,L⟩
 .repeat' (first
   |(apply aj ?_;clear hK K)|apply Rx.o ?_|apply aE ?_|(apply aA (fun o g=>?_) (fun o g=>?_)<;>try(cases o;done))|apply ah ?_|(apply ai fun K hK=>?_)|apply ak ?_|apply am ?_|apply aq ?_|apply aw ?_)
  all_goals refine qq ?_
  have hie:i=x.length:=p9;refine⟨trivial,⟨l,O,fun s=>by rw[V,hie,yD]⟩,L,ac⟩
structure Rs where
 ct:Nat
 mv:Nat
 r5:Nat
 ma:Nat
 r6:Nat
 mf:Nat
 r9:Nat
structure zfW (X:Rs) (vs an:qt) (fm:List (cc×Int)) (H:Hp):Prop where
 b12:H.get X.ct=some (.cells [.map X.mv] 0 true)
 bv:∃l,H.get X.mv=some (.map (gw l))/\∀s,bJ l s=bJ vs s
 b5:H.get X.r5=some (.cells [.map X.ma] 0 true)
 ba:∃l,H.get X.ma=some (.map (gw l))/\∀s,bJ l s=bJ an s
 b6:H.get X.r6=some (.cells [.map X.mf] 0 true)
 bf:H.get X.mf=some (.map (fW fm))
structure RsLt (X:Rs) (n:Nat):Prop where
 d4:X.ct<n
 lv:X.mv<n
 l5:X.r5<n
 la:X.ma<n
 l6:X.r6<n
 lf:X.mf<n
structure RsNe (X:Rs):Prop where
 d4:X.ct≠X.r9
 lv:X.mv≠X.r9
 l5:X.r5≠X.r9
 la:X.ma≠X.r9
 l6:X.r6≠X.r9
 lf:X.mf≠X.r9
def zfW.keep{X:Rs}{Z:qt}(h:zfW X vs Z m H)(U:H'.get X.ct=H.get X.ct)(V:H'.get X.mv=H.get X.mv)(M:H'.get X.r5=H.get X.r5)(j:H'.get X.ma=H.get X.ma)(K:H'.get X.r6=H.get X.r6)(i:H'.get X.mf=H.get X.mf):zfW X vs Z m H' where
 b12:=by rw[U];exact h.b12
 bv:=by rw[V];exact h.bv
 b5:=by rw[M];exact h.b5
 ba:=by rw[j];exact h.ba
 b6:=by rw[K];exact h.b6
 bf:=by rw[i];exact h.bf
def zfW.bP{X:Rs}{U:qt}{n:Nat}(h:zfW X vs U m H)(K:RsLt X n)(k:iM n H H'):zfW X vs U m H':=
 h.keep (k _ K.d4) (k _ K.lv) (k _ K.l5) (k _ K.la) (k _ K.l6) (k _ K.lf)
def zbZ(L:zd0 cfg 93){X:Rs}{J:qt}{fm:List (cc×Int)}{base:Nat}(Z:RsLt X base)(hI:uE base I)(hR:∀H,I H->zfW X vs J fm H):
 xR cfg base I 93 [.ptr X.ct 0,.ptr X.r5 0] fun x _=>iz vs J x:=by
 intro x d H hz o m;obtain⟨U,⟨lv,O,z⟩,j,⟨la,V,Y⟩,h6,hf⟩:=hR H m;have l12:=Z.d4;have llv:=Z.lv;have l5:=Z.l5;have lla:=Z.la;have g12:(H.alloc (.cells x.cells 0 true)).get X.ct=some (.cells [.map X.mv] 0 true):=by rw[aQ,af ac];exact U
 have g5:(H.alloc (.cells x.cells 0 true)).get X.r5=some (.cells [.map X.ma] 0 true):=by rw[aQ,af ac];exact j
 have i:(H.alloc (.cells x.cells 0 true)).get X.mv=some (.map (gw lv)):=by rw[aQ,af ac];exact O
 have ga:(H.alloc (.cells x.cells 0 true)).get X.ma=some (.map (gw la)):=by rw[aQ,af ac];exact V
 have kv:=wj i x.name;have ka:=wj ga x.name;rw[z]at kv;rw[Y]at ka;clear U j O V i ga z Y hf h6;have e12:(X.ct == H.next)=false:=bz ac;have e5:(X.r5 == H.next)=false:=bz ac;simp only[jI,Co];refine bF (M:=27) (rs:=[.tmp 6]) (L.call _) L.aD L.aq func93 rfl rfl OK.2 rfl ?_;dsimp only[OK,bA,Nat.reduceAdd];repeat' (first
  |(apply aj ?_;clear hK K)|apply Rx.o ?_|apply dE ?_|(apply aX (fun C g=>?_) (fun C g=>?_)<;>try(cases C;done))|apply ah ?_|(apply ai fun K hK=>?_)|apply aq ?_)
 all_goals
  all_goals refine qq ?_
  refine⟨?_,(jc _ _).alloc _,hI _ _ m ((pV _ _).alloc o _)⟩;rw[iz];(try simp only[ci]at *);simp only[ *,cj,bC,bH,Int.reduceEq]
def ON:oO prog 9=some .string:=aG
def rm(w:Bool):Int:=if w=true then 5 else 0
abbrev qj:HB:=.cells [.int .i64 5] 0 true
theorem zb0(hw:zd0 cfg 94){X:Rs}{an:qt}{base:Nat}(Z:RsLt X base)(h9:X.r9<base)(J:RsNe X):
 Ag cfg base (fun(w:Bool) H=>zfW X vs an m H/\H.get X.r9=some (.cells [.int .i64 (rm w)] 0 true)) 94 [.ptr X.ct 0,.ptr X.r5 0,.ptr X.r6 0,.ptr X.r9 0] (nO m vs an):=by
 intro x d w H hz o hi;obtain⟨I,L⟩:=hi;have O:=I;obtain⟨C,⟨lv,z,g⟩,h5,⟨la,ha1,ha2⟩,h6,hf⟩:=I;have l12:=Z.d4;have llv:=Z.lv;have l5:=Z.l5;have lla:=Z.la;have l6:=Z.l6;have llf:=Z.lf;have i:iM base H (H.alloc (.cells x.cells 0 true)):=(pV _ _).alloc o _;have g12:(H.alloc (.cells x.cells 0 true)).get X.ct=some (.cells [.map X.mv] 0 true):=by rw[i _ l12];exact C
 have g5:(H.alloc (.cells x.cells 0 true)).get X.r5=some (.cells [.map X.ma] 0 true):=by rw[i _ l5];exact h5
 have g6:(H.alloc (.cells x.cells 0 true)).get X.r6=some (.cells [.map X.mf] 0 true):=by rw[i _ l6];exact h6
 have g9:(H.alloc (.cells x.cells 0 true)).get X.r9=some (.cells [.int .i64 (rm w)] 0 true):=by rw[i _ h9];exact L
 have gv:(H.alloc (.cells x.cells 0 true)).get X.mv=some (.map (gw lv)):=by rw[i _ llv];exact z
 have ga:(H.alloc (.cells x.cells 0 true)).get X.ma=some (.map (gw la)):=by rw[i _ lla];exact ha1
 have gf:(H.alloc (.cells x.cells 0 true)).get X.mf=some (.map (fW m)):=by rw[i _ llf];exact hf
 have gb:(H.alloc (.cells x.cells 0 true)).get H.next=some (.cells x.cells 0 true):=by rw[aQ,ay ea]
 have kv:=wj gv x.name;have ka:=wj ga x.name;have kf:=za1 (P:=prog) (t:=83) underlying83 ON aG gf x.to;rw[g]at kv;rw[ha2]at ka;have hlen:=ph x.args;have hsz:=x.aM;have V:zfW X vs an m (H.alloc (.cells x.cells 0 true)):=O.bP Z i;have hx0:∀a b,Ab.extract (.aS [a,b]) 0=some a:=fun _ _=>rfl;have hx1:∀a b,Ab.extract (.aS [a,b]) 1=some b:=fun _ _=>rfl;have U:FrB base H (H.alloc (.cells x.cells 0 true)):=(jc _ _).alloc _;have Y:FrB base H ((H.alloc (.cells x.cells 0 true)).set X.r9 qj):=U.set (.inr h9) _;have j:zfW X vs an m ((H.alloc (.cells x.cells 0 true)).set X.r9 qj):=V.keep (by rw[a1,af J.d4]) (by rw[a1,af J.lv]) (by rw[a1,af J.l5]) (by rw[a1,af J.la]) (by rw[a1,af J.l6]) (by rw[a1,af J.lf]);have hw2:((H.alloc (.cells x.cells 0 true)).set X.r9 qj).get X.r9=some (.cells [.int .i64 (rm true)] 0 true):=Dp;have s12:((H.alloc (.cells x.cells 0 true)).set X.r9 qj).get X.ct=some (.cells [.map X.mv] 0 true):=j.b12;have sb:((H.alloc (.cells x.cells 0 true)).set X.r9 qj).get H.next=some (.cells x.cells 0 true):=by rw[a1,af ac];exact gb
 have sv:lO prog ((H.alloc (.cells x.cells 0 true)).set X.r9 qj) 155 (.map X.mv) (.ai x.name) false=some (.bool (bJ vs x.name)):=by
  obtain⟨l,q1,q2⟩:=j.bv;rw[wj q1,q2]
 clear C z g h5 ha1 ha2 h6 hf gv ga gf O L i;have e12:(X.ct == H.next)=false:=bz ac;have e5:(X.r5 == H.next)=false:=bz ac;have e6:(X.r6 == H.next)=false:=bz ac;have e9:(X.r9 == H.next)=false:=bz ac;have d12:(X.ct == X.r9)=false:=bz J.d4;have dn:(H.next == X.r9)=false:=bz ac;simp only[jI,Co];refine bF (M:=49) (rs:=[.tmp 8]) (hw.call _) hw.aD hw.aq func94 rfl rfl OL.2 rfl ?_;dsimp only[OL,bA,Nat.reduceAdd];repeat' (first
  |(apply aj ?_;clear hK K)|apply Rx.o ?_|apply aE ?_|(apply aX (fun hg hgp=>?_) (fun hg hgp=>?_)<;>try(cases hg;done))|(apply aA (fun hb hbp=>?_) (fun hb hbp=>?_)<;>try(cases hb;done))|apply ah ?_|(apply ai fun K hK=>?_)|apply ak ?_|apply am ?_|apply aq ?_)
 all_goals
  all_goals refine qq ?_
  first
  |refine⟨?_,U,V,?_⟩
  |refine⟨?_,Y,j,?_⟩
  all_goals
   (try rw[g9]);(try rw[hw2]);clear g12 g5 g6 g9 kv ka kf hx0 hx1 gb s12 sb sv V j U Y hw2 e12 e5 e6 e9 d12 dn Z J hlen hsz;simp_all[nO,rm]
end
section
def tyP4g.tyF:=ad @cR (ad @dt (ad @gH (ad @iV (ad @gO (ad @tO (ad @eA (ad @ft (ad @fc (ad @l8 (ad @xq (ad @fG (ad @Cm (ad @Ge (ad @HL (@zbf)))))))))))))))
open tyP4g
noncomputable def OO:{c:SC // aI 67 (f46.body.getD .skip)=c}:=by
 refine⟨?_,?_⟩;rotate_left
 .simp only[f46,bS,aI,bM,bI,bT,bU,Nat.blt,Nat.ble];rfl
noncomputable def DF:qA:=[HI]
def zb1(ρ:Nat->Int):gm prog ρ DF:=⟨NY ρ,trivial⟩
set_option maxRecDepth 100000 in
theorem zb2(ρ:Nat->Int)(p:Pr)(hz:p.sz<2^36):bX prog ρ 46 (fA p) (.int .i64 (wh p)):=eg fit (pls:=pls) (zb1 ρ) (.cons (.agg p.pure) .nil) (.int _ _) (by
 have hw:zd0 (aH pls DF) 46:=dG (fun _=>rfl) rfl;have kd:∀H,aY prog (aH pls DF) 90 [.agg p.cells] H fun v H'=>v=.aS [cM (bG p),cM (fX p)]/\H'=H:=fun H=>cF (enc:=fA) (out:=fun p=>.aS [cM (bG p),cM (fX p)]) rc (x:=p) rfl hz;have hps:zfX (aH pls DF):=⟨dG (fun _=>rfl) rfl,dG (fun _=>rfl) rfl,dG (fun _=>rfl) rfl,dG (fun _=>rfl) rfl⟩;have hpz:p.sz=1+gp p.aa+fw p.funcs:=rfl;have hla:=nF p.aa;have hlf:=nE p.funcs;have hal:(bG p).length=p.aa.length:=uj;have hfl:(fX p).length=p.funcs.length:=by simp[fX]
 have hx0:∀a b,Ab.extract (.aS [a,b]) 0=some a:=fun _ _=>rfl;have hx1:∀a b,Ab.extract (.aS [a,b]) 1=some b:=fun _ _=>rfl;have hnm:=KA;rw[fA];refine bF (M:=67) (rs:=[.tmp 2]) (hw.call _) hw.aD hw.aq func46 rfl rfl OO.2 rfl ?_;dsimp only[OO,bA,Nat.reduceAdd];repeat' (first
  |(apply aj ?_;clear hK K)|apply Rx.o ?_|apply aE ?_|(apply eC ?_;first|refine bi (kd _) ?_)|(apply aX (fun J Y=>?_) (fun J Y=>?_)<;>try(cases J;done))|(apply aA (fun o Z=>?_) (fun o Z=>?_)<;>try(cases o;done))|apply ah ?_|(apply ai fun K hK=>?_)|(apply dw 6 fun K hK=>?_)|apply ak ?_|apply am ?_|apply aq ?_|apply aw ?_)
 refine qc ?_;refine bb ?_ (OM (x:=[bG p]) (imm:=0) (dG (fun _=>rfl) rfl) sP (cI _) ⟨az,ca⟩);rintro v V ⟨rfl,⟨la,hma,hla2⟩,hold,hlt2⟩;simp only[bj,cm]at hma hold hlt2;rw[show([bG p]:List qt).flatten=bG p by simp]at hla2;have g20:V.get 0=some (.cells p.cells 0 true):=by rw[hold 0 ac,aQ,af az,aQ,ay ea]
 clear hold;dsimp only[aZ];repeat' (first
  |(apply aj ?_;clear hK K)|apply Rx.o ?_|apply aE ?_|(apply aX (fun J Y=>?_) (fun J Y=>?_)<;>try(cases J;done))|(apply aA (fun o Z=>?_) (fun o Z=>?_)<;>try(cases o;done))|apply ah ?_|(apply ai fun K hK=>?_)|(apply dw 6 fun K hK=>?_)|apply ak ?_|apply am ?_|apply aq ?_|apply aw ?_)
 generalize C:Hp.set (Hp.set _ _ _) _ _=Hs;have ns:V.next+3<=Hs.next:=by rw[<-C];exact aO _
 have gs0:Hs.get 0=some (.cells p.cells 0 true):=by rw[<-C,a1,af ac,a1,af ac,aQ,af dL,aQ,af dL,aQ,af ac];exact g20
 have gsa:Hs.get 2=some (.map (gw la)):=by rw[<-C,a1,af ac,a1,af ac,aQ,af dL,aQ,af dL,aQ,af ac];exact hma
 have gs5:Hs.get (V.next+1)=some (.cells [.map 2] 0 true):=by rw[<-C,a1,af ac,a1,ay ea]
 have gs6:Hs.get (V.next+2)=some (.cells [.map V.next] 0 true):=by rw[<-C,a1,ay ea]
 have gsf:Hs.get V.next=some (.map (fW [])):=by rw[<-C,a1,af ac,a1,af ac,aQ,af dL,aQ,af dL,aQ,ay ea];rfl
 clear C hma;have hlt2':3<=V.next:=ac
 clear hlt2;have hE0:(0 == V.next)=false:=bz ac;have hE2:(2 == V.next)=false:=bz ac;refine cA [1,2,5,6,23,24] [0,2,V.next+1,V.next+2] 25 p.funcs.length (fun i E H=>∃m,fY (p.funcs.drop i) m=fY p.funcs []/\H.get V.next=some (.map (fW m))) eE ⟨[],az,gsf⟩ ?_;rintro i E j hi hcE hrH hnH hsI ⟨m,hJ,hm⟩;(try simp only[bp,bm,aU,aF,aW,Nat.reduceBEq,Nat.reduceAdd,Nat.reduceLeDiff,tyF,gs0,gsa,gs5,gs6, *]at hcE);(try simp only[bp,bm,aU,aF,aW,Nat.reduceBEq,Nat.reduceAdd,Nat.reduceLeDiff,tyF,gs0,gsa,gs5,gs6, *]at hrH);(try simp only[bj,bE,cm,bO,Nat.reduceAdd]at hnH);have hB0:(0 == j.next)=false:=bz ac;have hC0:(j.next == 0)=false:=bz ac;have hB1:(2 == j.next)=false:=bz ac;have hC1:(j.next == 2)=false:=bz ac;have hB2:(V.next+1 == j.next)=false:=bz ac;have hC2:(j.next == V.next+1)=false:=bz ac;have hB3:(V.next+2 == j.next)=false:=bz ac;have hC3:(j.next == V.next+2)=false:=bz ac;obtain⟨h30,h3a,h35,h36⟩:=hrH;repeat' (first
  |(apply aj ?_;clear hK K)|apply Rx.o ?_|apply aE ?_|(apply aX (fun J Y=>?_) (fun J Y=>?_)<;>try(cases J;done))|(apply aA (fun o Z=>?_) (fun o Z=>?_)<;>try(cases o;done))|apply ah ?_|(apply ai fun K hK=>?_)|(apply dw 6 fun K hK=>?_)|apply ak ?_|apply am ?_|apply aq ?_|apply aw ?_)
 .have hlt:i<p.funcs.length:=by simpa using o
  have hgx:p.funcs[i]?=some p.funcs[i]:=a0 hlt;have hgn:(fX p)[i]?=some p.funcs[i].name:=by rw[fX,fO,hgx];rfl
  have hu:=za0 (P:=prog) (t:=83) underlying83 ON hm p.funcs[i].name p.funcs[i].params.length;rw[eU hlt,fY]at hJ;repeat' (first
   |(apply aj ?_;clear hK K)|apply Rx.o ?_|apply aE ?_|(apply aX (fun J Y=>?_) (fun J Y=>?_)<;>try(cases J;done))|(apply aA (fun o Z=>?_) (fun o Z=>?_)<;>try(cases o;done))|apply ah ?_|(apply ai fun K hK=>?_)|(apply dw 6 fun K hK=>?_)|apply ak ?_|apply am ?_|apply aq ?_|apply aw ?_)
  refine⟨ac,a2,a2,ce,po,?_⟩;exact⟨_,hJ,gL⟩
 .have hie:i=p.funcs.length:=by simp at o;omega
  rw[hie,fU,fY]at hJ;subst hJ;clear hie hsI hi o Z;repeat' (first
   |(apply aj ?_;clear hK K)|apply Rx.o ?_|apply aE ?_|(apply aX (fun J Y=>?_) (fun J Y=>?_)<;>try(cases J;done))|(apply aA (fun o Z=>?_) (fun o Z=>?_)<;>try(cases o;done))|apply ah ?_|(apply ai fun K hK=>?_)|(apply dw 6 fun K hK=>?_)|apply ak ?_|apply am ?_|apply aq ?_|apply aw ?_)
  generalize hHq:Hp.set (Hp.alloc j _) _ _=Hq;have nq:j.next+1<=Hq.next:=by rw[<-hHq];exact aO _
  have L:∀k,k<j.next->Hq.get k=j.get k:=fun k hk=>by rw[<-hHq,a1,af ac,aQ,af ac]
  have q9:Hq.get j.next=some (.cells [.int .i64 (rm false)] 0 true):=by rw[<-hHq,a1,ay rfl];rfl
  clear hHq;refine cA [5,6,9,41,42] [] 43 p.funcs.length (fun i E H=>∃w,H.get j.next=some (.cells [.int .i64 (rm w)] 0 true)/\wh p=sV (fY p.funcs []) (bG p) (p.funcs.drop i) w/\H.get (V.next+1)=some (.cells [.map 2] 0 true)/\(∃l,H.get 2=some (.map (gw l))/\∀s,bJ l s=bJ (bG p) s)/\H.get (V.next+2)=some (.cells [.map V.next] 0 true)/\H.get V.next=some (.map (fW (fY p.funcs [])))) eE ⟨false,q9,rfl,by rw[L _ ac];exact h35,⟨la,by rw[L _ ac];exact h3a,hla2⟩,by rw[L _ ac];exact h36,by rw[L _ ac];exact hm⟩ ?_;clear hm hla2 la h30 h3a h35 h36 gs0 gsa gs5 gs6 gsf q9 L;rintro i E H4 hi hcE hrH hnH hsI ⟨w,g9,hJ,g5,⟨la,ga,hla⟩,g6,gf⟩;(try simp only[bp,bm,aU,aF,aW,Nat.reduceBEq,Nat.reduceAdd,Nat.reduceLeDiff,tyF, *]at hcE);(try simp only[bp,bm,aU,aF,aW,Nat.reduceBEq,Nat.reduceAdd,Nat.reduceLeDiff,tyF, *]at hrH);(try simp only[bj,bE,cm,bO,Nat.reduceAdd]at hnH);repeat' (first
   |(apply aj ?_;clear hK K)|apply Rx.o ?_|apply aE ?_|(apply aX (fun J Y=>?_) (fun J Y=>?_)<;>try(cases J;done))|(apply aA (fun o Z=>?_) (fun o Z=>?_)<;>try(cases o;done))|apply ah ?_|(apply ai fun K hK=>?_)|(apply dw 6 fun K hK=>?_)|apply ak ?_|apply am ?_|apply aq ?_|apply aw ?_)
  .have hlt:i<p.funcs.length:=by simpa using o
   have hgx:p.funcs[i]?=some p.funcs[i]:=a0 hlt;have hsm:=ow (cL hlt);have hsz:p.funcs[i].sz=1+p.funcs[i].name.length+dU p.funcs[i].params+dU p.funcs[i].aj+bN p.funcs[i].body+p.funcs[i].value.sz:=rfl;have hpl:=jO p.funcs[i].params;have hll:=jO p.funcs[i].aj;have hdr:sV (fY p.funcs []) (bG p) (p.funcs.drop i) w=if pm (fun x _=>iz (p.funcs[i].params++p.funcs[i].aj) (bG p) x) p.funcs[i]=true/\(eV (nO (fY p.funcs []) (p.funcs[i].params++p.funcs[i].aj) (bG p)) p.funcs[i].body 0 w).1=true then sV (fY p.funcs []) (bG p) (p.funcs.drop (i+1)) (eV (nO (fY p.funcs []) (p.funcs[i].params++p.funcs[i].aj) (bG p)) p.funcs[i].body 0 w).2 else 3:=by rw[eU hlt];rfl
   rw[hdr]at hJ;clear hdr;have hfz:p.funcs[i].sz<2^60:=ac;generalize p.funcs[i]=g at *;repeat' (first
    |(apply aj ?_;clear hK K)|apply Rx.o ?_|apply aE ?_|(apply aX (fun J Y=>?_) (fun J Y=>?_)<;>try(cases J;done))|(apply aA (fun o Z=>?_) (fun o Z=>?_)<;>try(cases o;done))|apply ah ?_|(apply ai fun K hK=>?_)|(apply dw 6 fun K hK=>?_)|apply ak ?_|apply am ?_|apply aq ?_|apply aw ?_)
   generalize hHb:Hp.alloc (Hp.set _ _ _) _=Hb;have nb:Hb.next=H4.next+2:=by rw[<-hHb];rfl
   have oldb:∀k,k<H4.next->Hb.get k=H4.get k:=fun k hk=>by rw[<-hHb,aQ,af ip,a1,af ac,aQ,af ac]
   have gbr:Hb.get (H4.next+1)=some (.cells [cM g.params,cM g.aj] 0 true):=by rw[<-hHb,aQ,ay ea]
   have gb11:Hb.get H4.next=some (.cells g.cells 0 true):=by rw[<-hHb,aQ,af ip,a1,ay rfl]
   clear hHb;refine qc ?_;refine bb ?_ (OM (x:=[g.params,g.aj]) (imm:=0) (dG (fun _=>rfl) rfl) gbr ac ⟨az,ca⟩);rintro v z ⟨rfl,⟨lv,hmv,hlv⟩,old5,n5⟩;rw[show([g.params,g.aj]:List qt).flatten=g.params++g.aj by simp]at hlv;have o5:∀k,k<H4.next->z.get k=H4.get k:=fun k hk=>by rw[old5 k ac,oldb k hk]
   have g511:z.get H4.next=some (.cells g.cells 0 true):=by rw[old5 _ ac];exact gb11
   have g59:z.get j.next=some (.cells [.int .i64 (rm w)] 0 true):=by rw[o5 _ ac];exact g9
   have g55:z.get (V.next+1)=some (.cells [.map 2] 0 true):=by rw[o5 _ ac];exact g5
   have g5a:z.get 2=some (.map (gw la)):=by rw[o5 _ ac];exact ga
   have g56:z.get (V.next+2)=some (.cells [.map V.next] 0 true):=by rw[o5 _ ac];exact g6
   have g5f:z.get V.next=some (.map (fW (fY p.funcs []))):=by rw[o5 _ ac];exact gf
   clear o5 old5 gbr gb11 oldb g9 g5 ga g6 gf;have e1:(H4.next == z.next)=false:=bz ac;dsimp only[aZ];repeat' (first
    |(apply aj ?_;clear hK K)|apply Rx.o ?_|apply aE ?_|(apply aX (fun J Y=>?_) (fun J Y=>?_)<;>try(cases J;done))|(apply aA (fun o Z=>?_) (fun o Z=>?_)<;>try(cases o;done))|apply ah ?_|(apply ai fun K hK=>?_)|(apply dw 6 fun K hK=>?_)|apply ak ?_|apply am ?_|apply aq ?_|apply aw ?_)
   generalize hHd:Hp.set (Hp.alloc z _) _ _=Hd;have nd:Hd.next=z.next+1:=by rw[<-hHd];rfl
   have U:∀k,k<z.next->Hd.get k=z.get k:=fun k hk=>by rw[<-hHd,a1,af ac,aQ,af ac]
   have d12:Hd.get z.next=some (.cells [.map Hb.next] 0 true):=by rw[<-hHd,a1,ay rfl,nb]
   clear hHd;have hok:zfW ⟨z.next,Hb.next,V.next+1,2,V.next+2,V.next,j.next⟩ (g.params++g.aj) (bG p) (fY p.funcs []) Hd:={
    b12:=d12
    bv:=⟨lv,by show Hd.get Hb.next=_;rw[U _ n5];exact hmv,hlv⟩
    b5:=by show Hd.get (V.next+1)=_;rw[U _ ac];exact g55
    ba:=⟨la,by show Hd.get 2=_;rw[U _ ac];exact g5a,hla⟩
    b6:=by show Hd.get (V.next+2)=_;rw[U _ ac];exact g56
    bf:=by show Hd.get V.next=_;rw[U _ ac];exact g5f}
   have hd9:Hd.get j.next=some (.cells [.int .i64 (rm w)] 0 true):=by rw[U _ ac];exact g59
   have hd11:Hd.get H4.next=some (.cells g.cells 0 true):=by rw[U _ ac];exact g511
   have hlX:∀n,Hd.next<=n->RsLt ⟨z.next,Hb.next,V.next+1,2,V.next+2,V.next,j.next⟩ n:=fun n hn=>⟨by show z.next<n;omega,by show Hb.next<n;omega,by show V.next+1<n;omega,by show 2<n;omega,by show V.next+2<n;omega,by show V.next<n;omega⟩
   have hnX:RsNe ⟨z.next,Hb.next,V.next+1,2,V.next+2,V.next,j.next⟩:=⟨by show z.next≠j.next;omega,by show Hb.next≠j.next;omega,by show V.next+1≠j.next;omega,by show 2≠j.next;omega,by show V.next+2≠j.next;omega,by show V.next≠j.next;omega⟩;clear g59 g55 g5a g56 g5f d12 U hmv hlv hla g511;refine qc ?_;refine bb ?_ (OI hps (I:=fun H'=>iM Hd.next Hd H') (fun a b h1 h2=>h1.trans h2) (zbZ (dG (fun _=>rfl) rfl) (hlX _ (aO _)) (fun a b h1 h2=>h1.trans h2) fun H' h=>hok.bP (hlX _ (aO _)) h) g Hd hfz (aO _) (pV _ _));rintro v H6 ⟨rfl,hf6,O⟩;have n6:=hf6.next
   have hok6:=hok.bP (hlX _ (aO _)) O;have h69:H6.get j.next=some (.cells [.int .i64 (rm w)] 0 true):=by rw[O _ ac];exact hd9
   have h611:H6.get H4.next=some (.cells g.cells 0 true):=by rw[O _ ac];exact hd11
   clear O hf6 hok hd9 hd11;dsimp only[aZ];cases hwf:pm (fun x _=>iz (g.params++g.aj) (bG p) x) g with
   |false=>
    repeat' (first
     |(apply aj ?_;clear hK K)|apply Rx.o ?_|apply aE ?_|(apply aX (fun J Y=>?_) (fun J Y=>?_)<;>try(cases J;done))|(apply aA (fun o Z=>?_) (fun o Z=>?_)<;>try(cases o;done))|apply ah ?_|(apply ai fun K hK=>?_)|(apply dw 6 fun K hK=>?_)|apply ak ?_|apply am ?_|apply aq ?_|apply aw ?_)
    all_goals refine qq ?_
    rw[hJ,hwf];simp
   |true=>
    rw[hwf]at hJ;repeat' (first
     |(apply aj ?_;clear hK K)|apply Rx.o ?_|apply aE ?_|(apply aX (fun J Y=>?_) (fun J Y=>?_)<;>try(cases J;done))|(apply aA (fun o Z=>?_) (fun o Z=>?_)<;>try(cases o;done))|apply ah ?_|(apply ai fun K hK=>?_)|(apply dw 6 fun K hK=>?_)|apply ak ?_|apply am ?_|apply aq ?_|apply aw ?_)
    refine qc ?_;refine bb ?_ (xT (dG (fun _=>rfl) rfl) (base:=H6.next) (I:=fun(w:Bool) H=>zfW ⟨z.next,Hb.next,V.next+1,2,V.next+2,V.next,j.next⟩ (g.params++g.aj) (bG p) (fY p.funcs []) H/\H.get j.next=some (.cells [.int .i64 (rm w)] 0 true)) (fun s a b h1 h2=>⟨h1.1.bP (hlX _ n6) h2,by rw[h2 _ ac];exact h1.2⟩) (zb0 (dG (fun _=>rfl) rfl) (hlX _ n6) (by show j.next<_;omega) hnX) (bN g.body+1) g.body ac 0 w H6 ac (aO _) ⟨hok6,h69⟩);rintro v H7 ⟨rfl,hf7,hok7,h79⟩;have n7:=hf7.next
    dsimp only[aZ];repeat' (first
     |(apply aj ?_;clear hK K)|apply Rx.o ?_|apply aE ?_|(apply aX (fun J Y=>?_) (fun J Y=>?_)<;>try(cases J;done))|(apply aA (fun o Z=>?_) (fun o Z=>?_)<;>try(cases o;done))|apply ah ?_|(apply ai fun K hK=>?_)|(apply dw 6 fun K hK=>?_)|apply ak ?_|apply am ?_|apply aq ?_|apply aw ?_)
    .all_goals refine qq ?_
     rw[hJ];simp_all
    .refine⟨ac,a2,a2,ce,po,?_⟩;refine⟨_,h79,?_,hok7.b5,hok7.ba,hok7.b6,hok7.bf⟩;rw[hJ,ay ⟨rfl,by simp_all⟩]
  .repeat' (first
    |(apply aj ?_;clear hK K)|apply Rx.o ?_|apply aE ?_|(apply aX (fun J Y=>?_) (fun J Y=>?_)<;>try(cases J;done))|(apply aA (fun o Z=>?_) (fun o Z=>?_)<;>try(cases o;done))|apply ah ?_|(apply ai fun K hK=>?_)|(apply dw 6 fun K hK=>?_)|apply ak ?_|apply am ?_|apply aq ?_|apply aw ?_)
   all_goals refine qq ?_
   have hie:i=p.funcs.length:=p9;rw[hJ,hie,fU,sV,rm])
end
section
def tyW4e.tyF:=ad @cR (ad @dt (ad @gH (ad @iV (ad @gO (ad @eA (ad @ft (ad @fc (ad @l8 (ad @l9 (@fG))))))))))
open tyW4e
noncomputable def OP:{c:SC // aI 68 (f43.body.getD .skip)=c}:=by
 refine⟨?_,?_⟩;rotate_left
 .simp only[f43,bS,aI,bM,bI,bT,bU,Nat.blt,Nat.ble];rfl
theorem zb3(hp:zfX cfg)(hw:zd0 cfg 43)(h1w:zd0 cfg 82)(h2w:zd0 cfg 84)(p:Pr)(hz:p.sz<2^60):
 aY prog cfg 43 [.agg p.cells] bY fun v _=>v=.bool (lI p):=by
 have hpz:p.sz=1+gp p.aa+fw p.funcs:=rfl;have hla:=nF p.aa;have hlf:=nE p.funcs;have hla2:p.aa.length<2^60:=ac;have hlf2:p.funcs.length<2^60:=ac;refine bF (M:=68) (rs:=[.tmp 2]) (hw.call _) hw.aD hw.aq func43 rfl rfl OP.2 rfl ?_;dsimp only[OP,bA,Nat.reduceAdd];repeat' (first
  |(apply aj ?_;clear hK K)|apply Rx.o ?_|apply aE ?_|(apply aX (fun J g=>?_) (fun J g=>?_)<;>try(cases J;done))|(apply aA (fun o Z=>?_) (fun o Z=>?_)<;>try(cases o;done))|apply ah ?_|(apply ai fun K hK=>?_)|apply ak ?_|apply am ?_|apply aq ?_|apply aw ?_)
 .all_goals refine qq ?_
  simp_all[lI];try(intros;omega)
 .refine pQ (fun i E H=>p.aa.all (fun a=>!decide (a.len<1) && !decide (16<a.len))=(p.aa.drop i).all (fun a=>!decide (a.len<1) && !decide (16<a.len))/\E.at 1=.ptr 0 0/\E.at 21=.ao (p.aa.map Ar.cells)/\E.at 22=.int .i64 p.aa.length/\E.at 23=.int .i64 i/\0<H.next/\H.get 0=some (.cells p.cells 0 true)) p.aa.length ?_ ?_
  .rintro i E H hi ⟨hc,h1,h21,h22,h23,hn,hg0⟩;have e0:(0 == H.next)=false:=ca;repeat' (first
    |(apply aj ?_;clear hK K)|apply Rx.o ?_|apply aE ?_|(apply aX (fun J g=>?_) (fun J g=>?_)<;>try(cases J;done))|(apply aA (fun o Z=>?_) (fun o Z=>?_)<;>try(cases o;done))|apply ah ?_|(apply ai fun K hK=>?_)|apply ak ?_|apply am ?_|apply aq ?_|apply aw ?_)
   .have z:i<p.aa.length:=by simpa using o
    have hgx:p.aa[i]?=some p.aa[i]:=a0 z;have hd:(p.aa.drop i).all (fun a=>!decide (a.len<1) && !decide (16<a.len))=((!decide (p.aa[i].len<1) && !decide (16<p.aa[i].len))&&(p.aa.drop (i+1)).all (fun a=>!decide (a.len<1) && !decide (16<a.len))):=vZ;repeat' (first
     |(apply aj ?_;clear hK K)|apply Rx.o ?_|apply aE ?_|(apply aX (fun J g=>?_) (fun J g=>?_)<;>try(cases J;done))|(apply aA (fun o Z=>?_) (fun o Z=>?_)<;>try(cases o;done))|apply ah ?_|(apply ai fun K hK=>?_)|apply ak ?_|apply am ?_|apply aq ?_|apply aw ?_)
    .all_goals refine qq ?_
     have U:p.aa.all (fun a=>!decide (a.len<1) && !decide (16<a.len))=false:=by rw[hc,hd];simp_all
     simp only[lI,U];simp
    .refine⟨z,?_,eE,eE,eE,?_,ip,zh⟩
     .rw[hc,hd];simp_all
     .simp only[jK,Nat.reduceBEq,jg,hT (show i<2^62 by omega)]
    .all_goals refine qq ?_
     have U:p.aa.all (fun a=>!decide (a.len<1) && !decide (16<a.len))=false:=by rw[hc,hd];simp_all
     simp only[lI,U];simp
   .have hia:i=p.aa.length:=by simp at o;omega
    have hca:p.aa.all (fun a=>!decide (a.len<1) && !decide (16<a.len))=true:=by rw[hc,hia];simp
    clear hc;repeat' (first
     |(apply aj ?_;clear hK K)|apply Rx.o ?_|apply aE ?_|(apply aX (fun J g=>?_) (fun J g=>?_)<;>try(cases J;done))|(apply aA (fun o Z=>?_) (fun o Z=>?_)<;>try(cases o;done))|apply ah ?_|(apply ai fun K hK=>?_)|apply ak ?_|apply am ?_|apply aq ?_|apply aw ?_)
    refine pQ (fun i E H=>p.funcs.all jP=(p.funcs.drop i).all jP/\E.at 37=.ao (p.funcs.map Fu.cells)/\E.at 38=.int .i64 p.funcs.length/\E.at 39=.int .i64 i/\0<H.next) p.funcs.length ?_ ?_
    .rintro i E H hi ⟨hc,h37,h38,h39,hn⟩;repeat' (first
      |(apply aj ?_;clear hK K)|apply Rx.o ?_|apply aE ?_|(apply aX (fun J g=>?_) (fun J g=>?_)<;>try(cases J;done))|(apply aA (fun o Z=>?_) (fun o Z=>?_)<;>try(cases o;done))|apply ah ?_|(apply ai fun K hK=>?_)|apply ak ?_|apply am ?_|apply aq ?_|apply aw ?_)
     .have z:i<p.funcs.length:=by simpa using o
      have hgx:p.funcs[i]?=some p.funcs[i]:=a0 z;have hd:(p.funcs.drop i).all jP=(jP p.funcs[i]&&(p.funcs.drop (i+1)).all jP):=vZ;have hxm:=ow (cL z);generalize hx0:p.funcs[i]=x at *;have hsx:x.sz=1+x.name.length+dU x.params+dU x.aj+bN x.body+x.value.sz:=rfl;repeat' (first
       |(apply aj ?_;clear hK K)|apply Rx.o ?_|apply aE ?_|(apply aX (fun J g=>?_) (fun J g=>?_)<;>try(cases J;done))|(apply aA (fun o Z=>?_) (fun o Z=>?_)<;>try(cases o;done))|apply ah ?_|(apply ai fun K hK=>?_)|apply ak ?_|apply am ?_|apply aq ?_|apply aw ?_)
      .generalize C:Hp.set _ (H.next+2) _=L;have hn5:L.next=H.next+3:=Ae
       have m:L.get H.next=some (.cells x.cells 0 true):=Af
       have j:L.get (H.next+1)=some (.cells [.int .i64 0] 0 true):=Af;have hg5c:L.get (H.next+2)=some (.cells [.int .i64 0] 0 true):=Af;refine qc ?_;refine bb ?_ (xT hp.ws (base:=H.next+3) (fun s Ha Hb h V=>⟨by rw[V _ ac];exact h.1,by rw[V _ ac];exact h.2.1,fun r q1 q2 q3=>by rw[V r q1];exact h.2.2 r q1 q2 q3⟩) (zbV h1w (base:=H.next+3) (rn:=H.next+1) (rl:=H.next+2) ac ac ac L) (bN x.body+1) x.body ac 0 (0,0) L ac ac ⟨j,hg5c,fun _ _ _ _=>rfl⟩);rintro v H6 ⟨rfl,hf6,hi6⟩;have hn6:=hf6.next
       have hg6:H6.get H.next=some (.cells x.cells 0 true):=by rw[hi6.2.2 _ ac ac ac];exact m
       dsimp only[aZ];repeat' (first
        |(apply aj ?_;clear hK K)|apply Rx.o ?_|apply aE ?_|(apply aX (fun J g=>?_) (fun J g=>?_)<;>try(cases J;done))|(apply aA (fun o Z=>?_) (fun o Z=>?_)<;>try(cases o;done))|apply ah ?_|(apply ai fun K hK=>?_)|apply ak ?_|apply am ?_|apply aq ?_|apply aw ?_)
       .refine qc ?_;refine bb ?_ (OI hp (base:=0) (I:=fun _=>True) (fun _ _ _ _=>trivial) (zbW h2w (fun _ _ _ _=>trivial)) x H6 ac ac trivial);rintro v H7 ⟨rfl,hf7,_⟩;have hn7:=hf7.next
        dsimp only[aZ];repeat' (first
         |(apply aj ?_;clear hK K)|apply Rx.o ?_|apply aE ?_|(apply aX (fun J g=>?_) (fun J g=>?_)<;>try(cases J;done))|(apply aA (fun o Z=>?_) (fun o Z=>?_)<;>try(cases o;done))|apply ah ?_|(apply ai fun K hK=>?_)|apply ak ?_|apply am ?_|apply aq ?_|apply aw ?_)
        .all_goals refine qq ?_
         have Y:p.funcs.all jP=false:=by rw[hc,hd];simp_all[jP]
         simp only[lI,Y];simp
        .refine⟨z,?_,eE,eE,?_,ac⟩
         .rw[hc,hd];simp_all[jP]
         .simp only[jK,Nat.reduceBEq,jg,hT (show i<2^62 by omega)]
       .all_goals refine qq ?_
        have Y:p.funcs.all jP=false:=by rw[hc,hd];simp_all[jP]
        simp only[lI,Y];simp
      .all_goals refine qq ?_
       have O:jP x=false:=by
        simp only[jP,xz,lH];first|exact .inl (.inl (.inl jm))|exact .inl (.inl (.inr jm))
       have Y:p.funcs.all jP=false:=by rw[hc,hd,O,jS]
       simp only[lI,Y];simp
      .all_goals refine qq ?_
       have O:jP x=false:=by
        simp only[jP,xz,lH];first|exact .inl (.inl (.inl jm))|exact .inl (.inl (.inr jm))
       have Y:p.funcs.all jP=false:=by rw[hc,hd,O,jS]
       simp only[lI,Y];simp
     .all_goals refine qq ?_
      have:i=p.funcs.length:=p9;simp_all[lI];try(intros;omega)
    .exact⟨rfl,eE,eE,eE,ac⟩
  .exact⟨rfl,eE,eE,eE,eE,by simp[bj,cm],zh⟩
 .all_goals refine qq ?_
  simp_all[lI];try(intros;omega)
end
section
def tyW4f.tyF:=ad @cR (ad @Cc (@dt))
open tyW4f
noncomputable def OQ:{c:SC // aI 21 (f158.body.getD .skip)=c}:=by
 refine⟨?_,?_⟩;rotate_left
 .simp only[f158,bS,aI,bM,bI,bT,bU,Nat.blt,Nat.ble];rfl
noncomputable def OR:{c:SC // aI 9 (f155.body.getD .skip)=c}:=by
 refine⟨?_,?_⟩;rotate_left
 .simp only[f155,bS,aI,bM,bI,bT,bU,Nat.blt,Nat.ble];rfl
noncomputable def OS:{c:SC // aI 23 (f153.body.getD .skip)=c}:=by
 refine⟨?_,?_⟩;rotate_left
 .simp only[f153,bS,aI,bM,bI,bT,bU,Nat.blt,Nat.ble];rfl
noncomputable def OT:{c:SC // aI 34 (f141.body.getD .skip)=c}:=by
 refine⟨?_,?_⟩;rotate_left
 .simp only[f141,bS,aI,bM,bI,bT,bU,Nat.blt,Nat.ble];rfl
noncomputable def OU:{c:SC // aI 37 (f156.body.getD .skip)=c}:=by
 refine⟨?_,?_⟩;rotate_left
 .simp only[f156,bS,aI,bM,bI,bT,bU,Nat.blt,Nat.ble];rfl
theorem zb4(L:zd0 cfg 158)(n:Int)(H:Hp):aY prog cfg 158 [.int .u8 n] H fun v H'=>v=.bool (pn n)/\H'=H:=by
 refine bF (M:=21) (rs:=[.tmp 2]) (L.call _) L.aD L.aq func158 rfl rfl OQ.2 rfl ?_;dsimp only[OQ,bA,Nat.reduceAdd];repeat' (first
  |(apply aj ?_;clear hK K)|apply Rx.o ?_|apply dE ?_|(apply aX (fun J g=>?_) (fun J g=>?_)<;>try(cases J;done))|apply ah ?_|(apply ai fun K hK=>?_)|apply aq ?_)
 all_goals refine qq ?_
 all_goals (refine⟨?_,gS⟩;simp_all[pn]<;>omega)
theorem HV(L:zd0 cfg 155)(n:Int)(H:Hp):aY prog cfg 155 [.int .u8 n] H fun v H'=>v=.bool (nG n)/\H'=H:=by
 refine bF (M:=9) (rs:=[.tmp 2]) (L.call _) L.aD L.aq func155 rfl rfl OR.2 rfl ?_;dsimp only[OR,bA,Nat.reduceAdd];repeat' (first
  |(apply aj ?_;clear hK K)|apply Rx.o ?_|(apply aX (fun J g=>?_) (fun J g=>?_)<;>try(cases J;done))|apply ah ?_|(apply ai fun K hK=>?_)|apply aq ?_)
 all_goals refine qq ?_
 all_goals (refine⟨?_,gS⟩;simp_all[nG]<;>omega)
theorem zb5(L:zd0 cfg 153)(O:zd0 cfg 158)(hd:zd0 cfg 155)(s:qw)(C:s.length<2^60)(H:Hp):
 aY prog cfg 153 [.ai s] H fun v H'=>v=.int .i64 (fx s)/\H'=H:=by
 refine bF (M:=23) (rs:=[.tmp 2]) (L.call _) L.aD L.aq func153 rfl rfl OS.2 rfl ?_;dsimp only[OS,bA,Nat.reduceAdd];repeat' (first
  |(apply aj ?_;clear hK K)|apply Rx.o ?_|apply dE ?_|(apply aX (fun J g=>?_) (fun J g=>?_)<;>try(cases J;done))|(apply aA (fun o Z=>?_) (fun o Z=>?_)<;>try(cases o;done))|apply ah ?_|(apply ai fun K hK=>?_)|apply ak ?_|apply am ?_|apply aq ?_|apply aw ?_)
 refine pQ (fun i E H'=>fx s=i+fx (s.drop i)/\E.at 0=.ai s/\E.at 3=.int .i64 i/\H'=H) s.length ?_ ?_
 .rintro i E H' m ⟨hc,j,h3,rfl⟩;repeat' (first
   |(apply aj ?_;clear hK K)|apply Rx.o ?_|apply dE ?_|(apply aX (fun J g=>?_) (fun J g=>?_)<;>try(cases J;done))|(apply aA (fun o Z=>?_) (fun o Z=>?_)<;>try(cases o;done))|apply ah ?_|(apply ai fun K hK=>?_)|apply ak ?_|apply am ?_|apply aq ?_|apply aw ?_)
  .have Y:i<s.length:=by omega
   have I:s[i]?=some s[i]:=a0 Y;have V:fx (s.drop i)=if kY s[i]then fx (s.drop (i+1))+1 else 0:=by rw[eU Y,fx]
   repeat' (first
    |(apply aj ?_;clear hK K)|apply Rx.o ?_|apply dE ?_|(apply aX (fun J g=>?_) (fun J g=>?_)<;>try(cases J;done))|(apply aA (fun o Z=>?_) (fun o Z=>?_)<;>try(cases o;done))|apply ah ?_|(apply ai fun K hK=>?_)|apply ak ?_|apply am ?_|apply aq ?_|apply aw ?_)
   refine qc ?_;refine bb ?_ (zb4 O s[i].toNat H');rintro v _ ⟨rfl,rfl⟩;dsimp only[aZ];repeat' (first
    |(apply aj ?_;clear hK K)|apply Rx.o ?_|apply dE ?_|(apply aX (fun J g=>?_) (fun J g=>?_)<;>try(cases J;done))|(apply aA (fun o Z=>?_) (fun o Z=>?_)<;>try(cases o;done))|apply ah ?_|(apply ai fun K hK=>?_)|apply ak ?_|apply am ?_|apply aq ?_|apply aw ?_)
   .refine qc ?_;refine bb ?_ (HV hd s[i].toNat _);rintro v _ ⟨rfl,rfl⟩;dsimp only[aZ];repeat' (first
     |(apply aj ?_;clear hK K)|apply Rx.o ?_|apply dE ?_|(apply aX (fun J g=>?_) (fun J g=>?_)<;>try(cases J;done))|(apply aA (fun o Z=>?_) (fun o Z=>?_)<;>try(cases o;done))|apply ah ?_|(apply ai fun K hK=>?_)|apply ak ?_|apply am ?_|apply aq ?_|apply aw ?_)
    .have z:kY s[i]=true:=by simp_all[kY]
     refine⟨Y,?_,eE,?_,rfl⟩
     .rw[hc,V,z];simp;omega
     .simp only[jK,Nat.reduceBEq,jg,hT (show i<2^62 by omega)]
    .have z:kY s[i]=false:=by simp_all[kY]
     all_goals refine qq ?_
     exact⟨by rw[hc,V,z];simp,gS⟩
   .have z:kY s[i]=true:=by simp_all[kY]
    refine⟨Y,?_,eE,?_,rfl⟩
    .rw[hc,V,z];simp;omega
    .simp only[jK,Nat.reduceBEq,jg,hT (show i<2^62 by omega)]
  .all_goals refine qq ?_
   have U:i=s.length:=ac;refine⟨?_,gS⟩;rw[hc,U];simp[fx]
 .exact⟨az,eE,eE,rfl⟩
theorem OV(m:zd0 cfg 141)(s:qw)(hs:s.length<2^60)(H:Hp):
 aY prog cfg 141 [.ai s] H fun v H'=>v=.int .i64 (fH false s)/\H'=H:=by
 refine bF (M:=34) (rs:=[.tmp 2]) (m.call _) m.aD m.aq func141 rfl rfl OT.2 rfl ?_;dsimp only[OT,bA,Nat.reduceAdd];repeat' (first
  |(apply aj ?_;clear hK K)|apply Rx.o ?_|(apply aX (fun J g=>?_) (fun J g=>?_)<;>try(cases J;done))|(apply aA (fun o Z=>?_) (fun o Z=>?_)<;>try(cases o;done))|apply ah ?_|(apply ai fun K hK=>?_)|apply ak ?_|apply am ?_|apply aq ?_|apply aw ?_)
 refine yY (fun n E H'=>∃i:Nat,n=s.length-i/\i<=s.length/\fH false s=i+fH false (s.drop i)/\E.at 0=.ai s/\E.at 3=.int .i64 i/\H'=H) ?_ (n:=s.length) ?_
 .rintro n E H' ⟨i,rfl,hi,hc,h0,h3,rfl⟩;repeat' (first
   |(apply aj ?_;clear hK K)|apply Rx.o ?_|(apply aX (fun J g=>?_) (fun J g=>?_)<;>try(cases J;done))|(apply aA (fun o Z=>?_) (fun o Z=>?_)<;>try(cases o;done))|apply ah ?_|(apply ai fun K hK=>?_)|apply ak ?_|apply am ?_|apply aq ?_|apply aw ?_)
  .have z:i<s.length:=by omega
   have hgx:s[i]?=some s[i]:=a0 z;have Y:fH false (s.drop i)=if ku s[i]then fH false (s.drop (i+1))+1 else if s[i].toNat=35 then fH true (s.drop (i+1))+1 else 0:=by rw[eU z,fH]
   repeat' (first
    |(apply aj ?_;clear hK K)|apply Rx.o ?_|(apply aX (fun J g=>?_) (fun J g=>?_)<;>try(cases J;done))|(apply aA (fun o Z=>?_) (fun o Z=>?_)<;>try(cases o;done))|apply ah ?_|(apply ai fun K hK=>?_)|apply ak ?_|apply am ?_|apply aq ?_|apply aw ?_)
   .have U:ku s[i]=true:=by unfold ku;simp;omega
    refine⟨s.length-(i+1),ac,i+1,rfl,ac,?_,eE,?_,rfl⟩
    .rw[hc,Y,ay U];omega
    .simp only[jK,Nat.reduceBEq,jg,hT (show i<2^62 by omega)]
   .have U:ku s[i]=true:=by unfold ku;simp;omega
    refine⟨s.length-(i+1),ac,i+1,rfl,ac,?_,eE,?_,rfl⟩
    .rw[hc,Y,ay U];omega
    .simp only[jK,Nat.reduceBEq,jg,hT (show i<2^62 by omega)]
   .have U:ku s[i]=true:=by unfold ku;simp;omega
    refine⟨s.length-(i+1),ac,i+1,rfl,ac,?_,eE,?_,rfl⟩
    .rw[hc,Y,ay U];omega
    .simp only[jK,Nat.reduceBEq,jg,hT (show i<2^62 by omega)]
   .have U:ku s[i]=true:=by unfold ku;simp;omega
    refine⟨s.length-(i+1),ac,i+1,rfl,ac,?_,eE,?_,rfl⟩
    .rw[hc,Y,ay U];omega
    .simp only[jK,Nat.reduceBEq,jg,hT (show i<2^62 by omega)]
   .have L:s[i].toNat=35:=by omega
    have U:ku s[i]=false:=by unfold ku;simp;omega
    have hln:jQ (s.drop i)=jQ (s.drop (i+1))+1:=by rw[eU z,jQ,af ac]
    have I:fH false s=i+jQ (s.drop i)+fH false (s.drop (i+jQ (s.drop i))):=by
     rw[hc,Y,U,af az,ay L,Lm,Ez,hln,show i+1+jQ (s.drop (i+1))=i+(jQ (s.drop (i+1))+1) by omega];omega
    have hle:=Ll (s.drop i);rw[kQ]at hle;refine yY (fun n E H''=>∃j:Nat,n=s.length-j/\i<=j/\j<=s.length/\i+jQ (s.drop i)=j+jQ (s.drop j)/\E.at 0=.ai s/\E.at 3=.int .i64 j/\H''=H') ?_ (n:=s.length-i) ?_
    .rintro n E2 H2 ⟨j,rfl,hij,hj,V,k0,k3,rfl⟩;repeat' (first
      |(apply aj ?_;clear hK K)|apply Rx.o ?_|(apply aX (fun J g=>?_) (fun J g=>?_)<;>try(cases J;done))|(apply aA (fun o Z=>?_) (fun o Z=>?_)<;>try(cases o;done))|apply ah ?_|(apply ai fun K hK=>?_)|apply ak ?_|apply am ?_|apply aq ?_|apply aw ?_)
     .have O:j<s.length:=by omega
      have hgx2:s[j]?=some s[j]:=a0 O;have C:jQ (s.drop j)=if s[j].toNat=10 then 0 else jQ (s.drop (j+1))+1:=by rw[eU O,jQ]
      repeat' (first
       |(apply aj ?_;clear hK K)|apply Rx.o ?_|(apply aX (fun J g=>?_) (fun J g=>?_)<;>try(cases J;done))|(apply aA (fun o Z=>?_) (fun o Z=>?_)<;>try(cases o;done))|apply ah ?_|(apply ai fun K hK=>?_)|apply ak ?_|apply am ?_|apply aq ?_|apply aw ?_)
      .refine⟨s.length-(j+1),ac,j+1,rfl,ac,ac,?_,eE,?_,rfl⟩
       .rw[V,C,af (by simp_all;omega)];omega
       .simp only[jK,Nat.reduceBEq,jg,hT (show j<2^62 by omega)]
      .have h10:s[j].toNat=10:=by simp_all;omega
       rw[C,ay h10,tF]at V;refine⟨s.length-j,ac,j,rfl,ac,?_,eE,eE,gS⟩;rw[I,V]
     .have hje:j=s.length:=by omega
      have h0j:jQ (s.drop j)=0:=by rw[hje];simp[jQ]
      rw[h0j,tF]at V;refine⟨s.length-j,ac,j,rfl,ac,?_,eE,eE,gS⟩;rw[I,V]
    .exact⟨i,rfl,ac,ac,rfl,eE,eE,rfl⟩
   .have U:ku s[i]=false:=by unfold ku;simp;omega
    all_goals refine qq ?_
    refine⟨?_,gS⟩;rw[hc,Y,U,af az,af ac];simp
  .all_goals refine qq ?_
   have hie:i=s.length:=ac;refine⟨?_,gS⟩;rw[hc,hie];simp[fH]
 .exact⟨0,az,ac,az,eE,eE,rfl⟩
end
section
def tyW4g.tyF:=ad @cR (ad @dt (ad @tO (ad @FX (ad @F0 (ad @Cl (ad @Cc (ad @Yj (ad @U8 (ad @FM (@underlying9))))))))))
open tyW4g
noncomputable def OW:{c:SC // aI 35 (f154.body.getD .skip)=c}:=by
 refine⟨?_,?_⟩;rotate_left
 .simp only[f154,bS,aI,bM,bI,bT,bU,Nat.blt,Nat.ble];rfl
noncomputable def OX:{c:SC // aI 41 (f142.body.getD .skip)=c}:=by
 refine⟨?_,?_⟩;rotate_left
 .simp only[f142,bS,aI,bM,bI,bT,bU,Nat.blt,Nat.ble];rfl
noncomputable def OY:{c:SC // aI 49 (f122.body.getD .skip)=c}:=by
 refine⟨?_,?_⟩;rotate_left
 .simp only[f122,bS,aI,bM,bI,bT,bU,Nat.blt,Nat.ble];rfl
def zb6(L:zd0 cfg 156)(hd:zd0 cfg 155)(s:qw)(O:s≠[])(I:s.length<2^60)(H:Hp):
 aY prog cfg 156 [.ai s] H fun v H'=>(∃b,v=.bool b)/\H'=H:=by
 have Z:0<s.length:=ur.2 O;have V:s[0]?=some s[0]:=a0 Z;refine bF (M:=37) (rs:=[.tmp 2]) (L.call _) L.aD L.aq func156 rfl rfl OU.2 rfl ?_;dsimp only[OU,bA,Nat.reduceAdd];repeat' (first
  |(apply aj ?_;clear hK K)|apply Rx.o ?_|(apply aA (fun o g=>?_) (fun o g=>?_)<;>try(cases o;done))|apply ah ?_|(apply ai fun K hK=>?_)|apply ak ?_|apply am ?_|apply aq ?_|apply aw ?_)
 refine pQ (fun i E H'=>E.at 0=.ai s/\E.at 3=.int .i64 i/\H'=H) s.length ?_ ?_
 .rintro i E H' C ⟨k0,m,rfl⟩;repeat' (first
   |(apply aj ?_;clear hK K)|apply Rx.o ?_|(apply aA (fun o g=>?_) (fun o g=>?_)<;>try(cases o;done))|apply ah ?_|(apply ai fun K hK=>?_)|apply ak ?_|apply am ?_|apply aq ?_|apply aw ?_)
  .have z:i<s.length:=by omega
   have U:s[i]?=some s[i]:=a0 z;repeat' (first
    |(apply aj ?_;clear hK K)|apply Rx.o ?_|(apply aA (fun o g=>?_) (fun o g=>?_)<;>try(cases o;done))|apply ah ?_|(apply ai fun K hK=>?_)|apply ak ?_|apply am ?_|apply aq ?_|apply aw ?_)
   refine qc ?_;refine bb ?_ (HV hd s[i].toNat H');rintro v _ ⟨rfl,rfl⟩;dsimp only[aZ];repeat' (first
    |(apply aj ?_;clear hK K)|apply Rx.o ?_|(apply aA (fun o g=>?_) (fun o g=>?_)<;>try(cases o;done))|apply ah ?_|(apply ai fun K hK=>?_)|apply ak ?_|apply am ?_|apply aq ?_|apply aw ?_)
   .all_goals refine qq ?_
    exact⟨⟨_,rfl⟩,gS⟩
   .refine⟨z,eE,?_,gS⟩;simp only[jK,Nat.reduceBEq,jg,hT (show i<2^62 by omega)]
  .repeat' (first
    |(apply aj ?_;clear hK K)|apply Ry.o ?_|apply tQ ?_|(apply ct (fun J Y=>?_) (fun J Y=>?_)<;>try(cases J;done))|apply ah ?_|(apply ai fun K hK=>?_)|apply ak ?_|apply am ?_|apply aq ?_|apply aw ?_)
   all_goals refine qq ?_
   all_goals exact⟨⟨_,rfl⟩,gS⟩
 .exact⟨eE,eE,rfl⟩
def zb7:qt:=[[62,62,62],[60,60],[62,62],[60,61],[62,61],[61,61],[33,61]]
def zb8(L:zd0 cfg 154)(hplan:∀id,cfg.bF 154 id=.text)(s:qw)(m:s≠[])(hs:s.length<2^60)(H:Hp):
 aY prog cfg 154 [.ai s] H fun v H'=>(∃n:Nat,v=.int .i64 n/\n<=s.length)/\H'=H:=by
 have Y:0<s.length:=ur.2 m;have hg0:s[0]?=some s[0]:=a0 Y;have C:dK prog 193 [(0,.ai [62,62,62]),(1,.ai [60,60]),(2,.ai [62,62]),(3,.ai [60,61]),(4,.ai [62,61]),(5,.ai [61,61]),(6,.ai [33,61])]=some (.agg [.ai [62,62,62],.ai [60,60],.ai [62,62],.ai [60,61],.ai [62,61],.ai [61,61],.ai [33,61]]):=aG;refine bF (M:=35) (rs:=[.tmp 2]) (L.call _) L.aD L.aq func154 rfl rfl OW.2 rfl ?_;dsimp only[OW,bA,Nat.reduceAdd];repeat' (first
  |(apply aj ?_;clear hK K)|apply Rx.o ?_|(apply aX (fun J Z=>?_) (fun J Z=>?_)<;>try(cases J;done))|(apply aA (fun o g=>?_) (fun o g=>?_)<;>try(cases o;done))|apply ah ?_|(apply ai fun K hK=>?_)|(apply dw 10 fun K hK=>?_)|apply ak ?_|apply am ?_|apply aq ?_|apply aw ?_)
 refine pQ (fun i E H'=>E.at 0=.ai s/\E.at 6=.agg [.ai [62,62,62],.ai [60,60],.ai [62,62],.ai [60,61],.ai [62,61],.ai [61,61],.ai [33,61]]/\E.at 7=.int .i64 i/\H'=H) 7 ?_ ?_
 .rintro i E H' hi ⟨k0,k6,k7,rfl⟩;repeat' (first
   |(apply aj ?_;clear hK K)|apply Rx.o ?_|(apply aX (fun J Z=>?_) (fun J Z=>?_)<;>try(cases J;done))|(apply aA (fun o g=>?_) (fun o g=>?_)<;>try(cases o;done))|apply ah ?_|(apply ai fun K hK=>?_)|(apply dw 10 fun K hK=>?_)|apply ak ?_|apply am ?_|apply aq ?_|apply aw ?_)
  .have z:i<7:=by omega
   have U:∃w:qw,pI prog 193 (.agg [.ai [62,62,62],.ai [60,60],.ai [62,62],.ai [60,61],.ai [62,61],.ai [61,61],.ai [33,61]]) (.int .i64 i)=some (.ai w):=by
    refine⟨zb7.getD i [],?_⟩;rcases(show i=0\/i=1\/i=2\/i=3\/i=4\/i=5\/i=6 by omega)with rfl|rfl|rfl|rfl|rfl|rfl|rfl<;>kernel_rfl
   obtain⟨w,hw1⟩:=U;repeat' (first
    |(apply aj ?_;clear hK K)|apply Rx.o ?_|(apply aX (fun J Z=>?_) (fun J Z=>?_)<;>try(cases J;done))|(apply aA (fun o g=>?_) (fun o g=>?_)<;>try(cases o;done))|apply ah ?_|(apply ai fun K hK=>?_)|(apply dw 10 fun K hK=>?_)|apply ak ?_|apply am ?_|apply aq ?_|apply aw ?_)
   .have I:w.length<=s.length:=by omega
    repeat' (first
     |(apply aj ?_;clear hK K)|apply Rx.o ?_|(apply aX (fun J Z=>?_) (fun J Z=>?_)<;>try(cases J;done))|(apply aA (fun o g=>?_) (fun o g=>?_)<;>try(cases o;done))|apply ah ?_|(apply ai fun K hK=>?_)|(apply dw 10 fun K hK=>?_)|apply ak ?_|apply am ?_|apply aq ?_|apply aw ?_)
    .all_goals refine qq ?_
     exact⟨⟨w.length,rfl,I⟩,gS⟩
    .refine⟨z,eE,eE,?_,gS⟩;simp only[jK,Nat.reduceBEq,jg,hT (show i<2^62 by omega)]
   .refine⟨z,eE,eE,?_,gS⟩;simp only[jK,Nat.reduceBEq,jg,hT (show i<2^62 by omega)]
  .repeat' (first
    |(apply aj ?_;clear hK K)|apply Rx.o ?_|(apply aX (fun J Z=>?_) (fun J Z=>?_)<;>try(cases J;done))|(apply aA (fun o g=>?_) (fun o g=>?_)<;>try(cases o;done))|apply ah ?_|(apply ai fun K hK=>?_)|(apply dw 10 fun K hK=>?_)|apply ak ?_|apply am ?_|apply aq ?_|apply aw ?_)
   refine pQ (fun i E V=>E.at 0=.ai s/\E.at 5=.int .i64 i/\V=H') 23 ?_ ?_
   .rintro j E V hj ⟨k0,k5,rfl⟩;repeat' (first
     |(apply aj ?_;clear hK K)|apply Rx.o ?_|(apply aX (fun J Z=>?_) (fun J Z=>?_)<;>try(cases J;done))|(apply aA (fun o g=>?_) (fun o g=>?_)<;>try(cases o;done))|apply ah ?_|(apply ai fun K hK=>?_)|(apply dw 10 fun K hK=>?_)|apply ak ?_|apply am ?_|apply aq ?_|apply aw ?_)
    .have z:j<23:=by omega
     have O:∃b,([43,45,42,47,37,38,124,94,126,33,60,62,61,63,58,59,44,40,41,123,125,91,93]:qw)[j]?=some b:=by
      rw[a0 By];exact⟨_,rfl⟩
     obtain⟨b,O⟩:=O;repeat' (first
      |(apply aj ?_;clear hK K)|apply Ry.o ?_|(apply bq (fun o g=>?_) (fun o g=>?_)<;>try(cases o;done))|apply ah ?_|(apply ai fun K hK=>?_)|(apply dw 10 fun K hK=>?_)|apply ak ?_|apply am ?_|apply aq ?_|apply aw ?_)
     .all_goals refine qq ?_
      exact⟨⟨1,rfl,Y⟩,gS⟩
     .refine⟨z,eE,?_,gS⟩;simp only[jK,Nat.reduceBEq,jg,hT (show j<2^62 by omega)]
    .all_goals refine qq ?_
     exact⟨⟨0,rfl,dN _⟩,gS⟩
   .exact⟨eE,eE,rfl⟩
 .exact⟨eE,eE,eE,rfl⟩
end
section
def tyW4h.tyF:=ad @cR (ad @dt (ad @Cl (ad @FM (@underlying9))))
open tyW4h
structure zd6 (cfg:Cfg):Prop where
 let_:zd0 cfg 158
 dig:zd0 cfg 155
 d5:zd0 cfg 153
 dv:zd0 cfg 141
 num:zd0 cfg 156
 cj:zd0 cfg 154
 cT:zd0 cfg 142
 scan:zd0 cfg 122
 bF:∀id,cfg.bF 154 id=.text
 keep:cfg.keep 122=false
def DG(a:Int)(x:qw):dK prog 116 [(0,.int .i64 a),(1,.ai x)]=some (.agg [.int .i64 a,.ai x,.int .i64 0]):=aG
def DH:dK prog 116 []=some (.agg [.int .i64 0,.ai [],.int .i64 0]):=aG
theorem xU(a b c:AV):cQ 3 [a,b,c]=some (.agg [a,b,c]):=rfl
def wy(H:Hp)(a b:HB):FrB 0 H ((H.alloc a).set H.next b):=((jc _ _).alloc _).set (.inl (aO _)) _
theorem zb9(I:zd6 cfg)(s:qw)(C:s≠[])(z:s.length<2^60)(H:Hp):
 aY prog cfg 142 [.ai s] H fun v H'=>(∃k e,v=.aS [.agg k.cells,.int .i64 e]/\Ln s k e)/\FrB 0 H H':=by
 have L:=I.cT
 have O:0<s.length:=ur.2 C;have Y:s[0]?=some s[0]:=a0 O;have Z:=Lk s;refine bF (M:=41) (rs:=[.cell 2 116,.tmp 3]) (L.call _) L.aD L.aq func142 rfl rfl OX.2 rfl ?_;dsimp only[OX,bA,Nat.reduceAdd];repeat' (first
  |(apply aj ?_;clear hK K)|apply Rx.o ?_|apply aE ?_|(apply aA (fun o g=>?_) (fun o g=>?_)<;>try(cases o;done))|apply ah ?_|(apply ai fun K hK=>?_)|apply ak ?_|apply am ?_|apply aq ?_)
 refine qc ?_;refine bb ?_ (zb5 I.d5 I.let_ I.dig s z _);rintro v _ ⟨rfl,rfl⟩;dsimp only[aZ];have V:=@DG;have U:=@DH;repeat' (first
  |(apply aj ?_;clear hK K)|apply Ry.o ?_|(apply bq (fun o g=>?_) (fun o g=>?_)<;>try(cases o;done))|apply ah ?_|(apply ai fun K hK=>?_)|apply ak ?_|apply am ?_|apply aq ?_)
 .refine qc ?_;refine bb ?_ (zb8 I.cj I.bF s C z _);rintro v _ ⟨⟨n,rfl,hn⟩,rfl⟩;dsimp only[aZ];have V:=@DG;have U:=@DH;repeat' (first
   |(apply aj ?_;clear hK K)|apply Rx.o ?_|apply aE ?_|(apply aA (fun o g=>?_) (fun o g=>?_)<;>try(cases o;done))|apply ah ?_|(apply ai fun K hK=>?_)|apply ak ?_|apply am ?_|apply aq ?_)
  .refine⟨aD,_,(by(try simp only[aF,aW,Nat.reduceBEq,Nat.reduceAdd,Nat.reduceLeDiff,tyF,eh,eM,xU, *]);first|done|with_reducible rfl),?_⟩;try simp only[aC]
   exact⟨⟨⟨0,[],0⟩,2,rfl,rfl,az,fun i=>ac⟩,wy _ _ _⟩
  .refine⟨aD,_,(by(try simp only[aF,aW,Nat.reduceBEq,Nat.reduceAdd,Nat.reduceLeDiff,tyF,eh,eM,xU, *]);first|done|with_reducible rfl),?_⟩;try simp only[aC]
   refine⟨⟨⟨3,s.take n,0⟩,0,rfl,rfl,fun _=>⟨n,ac,hn,rfl,az⟩,fun i=>ac⟩,wy _ _ _⟩
 .refine qc ?_;refine bb ?_ (HV I.dig s[0].toNat _);rintro v _ ⟨rfl,rfl⟩;dsimp only[aZ];have hsl:=FM (P:=prog) (k:=.i64) (s:=s) underlying9 Z;have V:=@DG;have U:=@DH;repeat' (first
   |(apply aj ?_;clear hK K)|apply Rx.o ?_|apply aE ?_|(apply aA (fun o g=>?_) (fun o g=>?_)<;>try(cases o;done))|apply ah ?_|(apply ai fun K hK=>?_)|apply ak ?_|apply am ?_|apply aq ?_)
  .have J:s.take (fx s)≠[]:=by
    intro h;have:=jH List.length h;rw[lS,Nat.min_eq_left Z,gM]at this;omega
   refine qc ?_;refine bb ?_ (zb6 I.num I.dig (s.take (fx s)) J vd _);rintro v _ ⟨⟨ok,rfl⟩,rfl⟩;dsimp only[aZ];have V:=@DG;have U:=@DH;repeat' (first
    |(apply aj ?_;clear hK K)|apply Rx.o ?_|apply aE ?_|(apply aA (fun o g=>?_) (fun o g=>?_)<;>try(cases o;done))|apply ah ?_|(apply ai fun K hK=>?_)|apply ak ?_|apply am ?_|apply aq ?_)
   .refine⟨aD,_,(by(try simp only[aF,aW,Nat.reduceBEq,Nat.reduceAdd,Nat.reduceLeDiff,tyF,eh,eM,xU, *]);first|done|with_reducible rfl),?_⟩;try simp only[aC]
    refine⟨⟨⟨0,[],0⟩,2,rfl,rfl,az,fun i j m=>?_⟩,wy _ _ _⟩;have:=m _ Y;simp_all
   .refine⟨aD,_,(by(try simp only[aF,aW,Nat.reduceBEq,Nat.reduceAdd,Nat.reduceLeDiff,tyF,eh,eM,xU, *]);first|done|with_reducible rfl),?_⟩;try simp only[aC]
    refine⟨⟨⟨2,s.take (fx s),0⟩,0,rfl,rfl,fun _=>⟨fx s,ac,Z,rfl,az⟩,fun i j m=>?_⟩,wy _ _ _⟩;have:=m _ Y;simp_all
  .refine⟨aD,_,(by(try simp only[aF,aW,Nat.reduceBEq,Nat.reduceAdd,Nat.reduceLeDiff,tyF,eh,eM,xU, *]);first|done|with_reducible rfl),?_⟩;try simp only[aC]
   exact⟨⟨⟨0,[],0⟩,6,rfl,rfl,az,fun i j=>ac⟩,wy _ _ _⟩
  .refine⟨aD,_,(by(try simp only[aF,aW,Nat.reduceBEq,Nat.reduceAdd,Nat.reduceLeDiff,tyF,eh,eM,xU, *]);first|done|with_reducible rfl),?_⟩;try simp only[aC]
   refine⟨⟨⟨1,s.take (fx s),0⟩,0,rfl,rfl,fun _=>⟨fx s,ac,Z,rfl,fun _=>⟨rfl,ac,fun b o=>?_⟩⟩,fun _ _ _=>⟨rfl,rfl⟩⟩,wy _ _ _⟩;rw[Y]at o;simp only[aJ]at o;subst o;assumption
end
section
def tyW4i.tyF:=ad @cR (ad @dt (ad @tO (ad @FX (ad @F0 (@Cl)))))
open tyW4i
def OZ(a b:Int):dK prog 44 [(0,.int .i64 a),(1,.int .i64 b)]=some (.agg [.int .i64 a,.int .i64 b]):=aG
def O0:dK prog 44 []=some (.agg [.int .i64 0,.int .i64 0]):=aG
theorem HW(a b:AV):cQ 2 [a,b]=some (.agg [a,b]):=rfl
theorem zca(k:Tk)(x:Int):List.take 2 k.cells++[.int .i64 x]++List.drop 3 k.cells=(Tk.mk k.am k.text x).cells:=rfl
def zcb(H:Hp)(k:Tk):dW prog H 72 1 [(0,.agg k.cells)]=some (.sl H.next 0 1 3,H.alloc (.cells k.cells 0 true)):=aG
theorem zcc{bY:Hp}{M:AV}{i:List Tk}(Y:xy bY.next H M i)(I:FrB 0 bY H)(V:bY.next<H.next)(k:Tk){U:Nat}(C:H.get U=some (.cells k.cells 0 true))(hb:i.length<2^40):
 ∃J,dm prog false H 72 72 M (.sl U 0 1 3)=some (.sl H.next 0 (i.length+1) 3,J)/\J.next=H.next+1/\xy bY.next J (.sl H.next 0 (i.length+1) 3) (i++[k])/\FrB 0 bY J/\∀j,j<H.next->M≠.sl j 0 i.length 3->J.get j=H.get j:=by
 have Z:fN H 3 (.sl U 0 1 3)=some (0+1,k.cells):=by
  have:=tN (H:=H) (r:=U) (o:=0) (n:=1) (z:=3) (s:=3) C (by rw[fF,lS,Tk.a9];rfl);rw[this,fF,gZ (by rw[Tk.a9];omega)]
 have O:dX=70368744177664:=rfl;rcases Y with⟨rfl,rfl⟩|⟨r,rfl,g,q3,q4,q5⟩
 .refine⟨H.alloc (.cells k.cells 0 true),?_,rfl,.inr ⟨H.next,az,?_,V,cI _,az⟩,I.alloc _,fun j m _=>?_⟩
  .exact append_nil underlying72 Ck Ga Gb aG Z k.one rfl rI rI
  .rw[aQ,ay rfl];simp
  .rw[aQ,af ac]
 .refine⟨(H.aP r).alloc (.cells (i.flatMap Tk.cells++k.cells) 0 true),?_,rfl,.inr ⟨H.next,az,?_,V,cI _,az⟩,(I.aP ac).alloc _,fun j m L=>?_⟩
  .exact FN underlying72 Ck Ga Gb aG Z k.one rfl g (Lo i) rI rI
  .show((H.aP r).alloc _).get (H.aP r).next=_
   rw[aQ,ay rfl];simp
  .have K:¬j=r:=fun e=>L mE;rw[aQ,af nI,hO,af K]
def zcd(s:qw)(H:Hp)(v:AV)(H':Hp):Prop:=
 ∃(U L:Int) (lv:AV),v=.aS [lv,.agg [.int .i64 U,.int .i64 L]]/\FrB 0 H H'/\((U≠0/\¬tU s)\/(U=0/\∃ts,xy H.next H' lv ts/\CB s ts/\(tU s->ts=[⟨1,s,0⟩])))
abbrev qp:HB:=.cells [.int .i64 0,.int .i64 0] 0 true
theorem zce(hx:zd6 cfg)(s:qw)(hs:s.length<2^60)(H:Hp):aY prog cfg 122 [.ai s] H (zcd s H):=by
 have hw:=hx.scan;refine bF (M:=49) (rs:=[.tmp 2,.cell 3 44]) (hw.call _) hw.aD hw.aq func122 rfl rfl OY.2 rfl ?_;dsimp only[OY,bA,Nat.reduceAdd];have gh0:=@OZ;have gh1:=@O0;repeat' (first
  |(apply aj ?_;clear hK K)|apply Rx.o ?_|apply aE ?_|(apply aA (fun o g=>?_) (fun o g=>?_)<;>try(cases o;done))|apply ah ?_|(apply ai fun K hK=>?_)|apply ak ?_|apply am ?_|apply aq ?_|apply aw ?_)
 .refine⟨aD,_,(by(try simp only[aF,aW,Nat.reduceBEq,Nat.reduceAdd,Nat.reduceLeDiff,tyF,eh,eM,HW, *]);first|done|with_reducible rfl),?_⟩;try simp only[aC]
  refine⟨6,20000,.ah,rfl,wy _ _ _,.inl ⟨az,fun h=>?_⟩⟩;have:=h.2.2.1;omega
 .refine qc ?_;refine bb ?_ (OV hx.dv s hs _);rintro v _ ⟨rfl,rfl⟩;dsimp only[aZ];repeat' (first
   |(apply aj ?_;clear hK K)|apply Rx.o ?_|apply aE ?_|(apply aA (fun o g=>?_) (fun o g=>?_)<;>try(cases o;done))|apply ah ?_|(apply ai fun K hK=>?_)|apply ak ?_|apply am ?_|apply aq ?_|apply aw ?_)
  have hsp:=xw false s;refine yY (fun n E z=>∃(L:Nat) (ts:List Tk) (lv:AV),n=s.length-L/\L<=s.length/\E.at 0=.ai s/\E.at 3=.ptr H.next 0/\E.at 4=lv/\E.at 5=.int .i64 L/\FrB 0 H z/\H.next<z.next /\
   z.get H.next=some qp/\xy H.next z lv ts/\ts.length<=L/\CB s ts/\(ts=[]->L=fH false s)/\(tU s->(ts=[]/\L=0)\/(ts=[⟨1,s,0⟩]/\L=s.length))) ?_ (n:=s.length-fH false s) ?_
  .rintro n E z ⟨L,ts,lv,rfl,ha,h0,h3,h4,h5,i,hn2,hg2,J,htl,Y,V,hnm⟩;have e1:(H.next == z.next)=false:=ca;repeat' (first
    |(apply aj ?_;clear hK K)|apply Rx.o ?_|apply aE ?_|(apply aA (fun o g=>?_) (fun o g=>?_)<;>try(cases o;done))|apply ah ?_|(apply ai fun K hK=>?_)|apply ak ?_|apply am ?_|apply aq ?_|apply aw ?_)
   .have hlt:L<s.length:=by omega
    have hslo:=Kz (P:=prog) (k:=.i64) (s:=s) (m:=L) underlying9 ha;repeat' (first
     |(apply aj ?_;clear hK K)|apply Rx.o ?_|apply aE ?_|(apply aA (fun o g=>?_) (fun o g=>?_)<;>try(cases o;done))|apply ah ?_|(apply ai fun K hK=>?_)|apply ak ?_|apply am ?_|apply aq ?_|apply aw ?_)
    have hne:s.drop L≠[]:=by
     intro h;have:=jH List.length h;rw[kQ,gM]at this;omega
    refine qc ?_;refine bb ?_ (zb9 hx (s.drop L) hne E9 z);rintro v j ⟨⟨k,e,rfl,hk⟩,Z⟩;have hn3:=Z.next
    have hg3:j.get H.next=some qp:=by rw[Z.get _ (dN _) hn2];exact hg2
    have I:xy H.next j lv ts:=by
     rcases J with h|⟨r,q1,q2,q3,q4,q5⟩
     .exact .inl h
     .exact .inr ⟨r,q1,by rw[Z.get _ (dN _) q4];exact q2,q3,ac,q5⟩
    have e2:(H.next == j.next)=false:=ca;dsimp only[aZ];have hx1:Ab.extract (.aS [.agg k.cells,.int .i64 e]) 0=some (.agg k.cells):=rfl;have hx2:Ab.extract (.aS [.agg k.cells,.int .i64 e]) 1=some (.int .i64 e):=rfl;have gh0:=@OZ;repeat' (first
     |(apply aj ?_;clear hK K)|apply Rx.o ?_|apply aE ?_|(apply aA (fun o g=>?_) (fun o g=>?_)<;>try(cases o;done))|apply ah ?_|(apply ai fun K hK=>?_)|apply ak ?_|apply am ?_|apply aq ?_|apply aw ?_)
    .have he:e≠0:=by simpa using o
     refine⟨aD,_,(by(try simp only[aF,aW,Nat.reduceBEq,Nat.reduceAdd,Nat.reduceLeDiff,tyF,eh,eM,HW, *]);first|done|with_reducible rfl),?_⟩;try simp only[aC]
     refine⟨e,L,.ah,rfl,?_,.inl ⟨he,fun h=>?_⟩⟩
     .exact((((i.trans Z).alloc _).set (.inl ac) _).set (.inl (aO _)) _)
     .rcases hnm h with⟨_,q⟩|⟨_,q⟩
      .subst q;exact he (hk.2.2 h.1 OB h.2.2.2).1
      .omega
    .have he:e=0:=by simpa using o
     have gh0:=@zca;have gh1:=@zcb;repeat' (first
      |(apply aj ?_;clear hK K)|apply Rx.o ?_|apply aE ?_|(apply aA (fun o g=>?_) (fun o g=>?_)<;>try(cases o;done))|apply ah ?_|(apply ai fun K hK=>?_)|apply ak ?_|apply am ?_|apply aq ?_|apply aw ?_)
     generalize U:Tk.mk k.am k.text (L:Int)=k';generalize C:Hp.alloc _ (HB.cells (Tk.cells k') 0 true)=H5;have hn5:H5.next=j.next+2:=Ae
     have hg5:H5.get (j.next+1)=some (.cells k'.cells 0 true):=Af;have hg5a:H5.get j.next=some (.cells k'.cells 0 true):=Af
     have hf5:FrB 0 j H5:=by rw[<-C];exact(((jc _ _).alloc _).set (.inl (aO _)) _).set (.inl (aO _)) _ |>.alloc _
     have hF5:FrB 0 H H5:=(i.trans Z).trans hf5;have hrep5:xy H.next H5 lv ts:=by
      rcases I with h|⟨r,q1,q2,q3,q4,q5⟩
      .exact .inl h
      .exact .inr ⟨r,q1,by rw[hf5.get _ (dN _) q4];exact q2,q3,ac,q5⟩
     obtain⟨H6,p1,p2,p3,p4,p5⟩:=zcc hrep5 hF5 ac k' hg5 ac;have hkeep:=hx.keep;have hg6:H6.get H.next=some qp:=by
      rw[p5 _ ac (fun e=>by rcases I with⟨_,q⟩|⟨r,q1,_,q3,_⟩<;>simp_all),hf5.get _ (dN _) ac];exact hg3
     have hg6a:H6.get j.next=some (.cells k'.cells 0 true):=by
      rw[p5 _ ac (fun e=>by rcases I with⟨_,q⟩|⟨r,q1,_,q3,q4,_⟩<;>simp_all)];exact hg5a
     obtain⟨n,hn1,hn2',hkt,hkk⟩:=hk.2.1 he;rw[kQ]at hn2';have hktl:k'.text.length=n:=by rw[<-U];show k.text.length=n;rw[hkt,lS,kQ];omega
     have hwr:IntKind.wrap .i64 ((L:Int)+(n:Int))=((L+n:Nat):Int):=CG;have hslo2:=Kz (P:=prog) (k:=.i64) (s:=s) (m:=L+n) underlying9 ac;refine jr cS cS (by rw[hkeep];exact p1) ?_;repeat' (first
      |(apply aj ?_;clear hK K)|apply Rx.o ?_|apply aE ?_|(apply aA (fun o g=>?_) (fun o g=>?_)<;>try(cases o;done))|apply ah ?_|(apply ai fun K hK=>?_)|apply ak ?_|apply am ?_|apply aq ?_|apply aw ?_)
     refine qc ?_;refine bb ?_ (OV hx.dv (s.drop (L+n)) E9 _);rintro v _ ⟨rfl,rfl⟩;dsimp only[aZ];have hsp2:=xw false (s.drop (L+n));rw[kQ]at hsp2;have hwr2:IntKind.wrap .i64 (((L+n:Nat):Int)+(fH false (s.drop (L+n)):Int))=((L+n+fH false (s.drop (L+n)):Nat):Int):=CG;repeat' (first
      |(apply aj ?_;clear hK K)|apply Rx.o ?_|apply aE ?_|(apply aA (fun o g=>?_) (fun o g=>?_)<;>try(cases o;done))|apply ah ?_|(apply ai fun K hK=>?_)|apply ak ?_|apply am ?_|apply aq ?_|apply aw ?_)
     refine⟨s.length-(L+n+fH false (s.drop (L+n))),ac,L+n+fH false (s.drop (L+n)),ts++[k'],.sl H5.next 0 (ts.length+1) 3,rfl,ac,eE,eE,eE,(by first|(simp only[aF,Nat.reduceBEq,kO, *];done)|rfl),p4,ac,hg6,p3,ca,fun t rest hr=>?_,az,fun h=>.inr ?_⟩
     .cases ts with
      |nil=>
       simp only[pJ,dR]at hr;obtain⟨rfl,_⟩:=hr;rw[<-V rfl];exact⟨k,by rw[<-he];exact hk,by rw[<-U],by rw[<-U]⟩
      |cons t0 ts=>
       simp only[sE,dR]at hr;obtain⟨rfl,_⟩:=hr;exact Y _ _ rfl
     .rcases hnm h with⟨rfl,q⟩|⟨_,q⟩
      .subst q;have O:=(hk.2.2 h.1 OB h.2.2.2).2;simp only[fF]at O hkt;have hwn:fx s=s.length:=h.2.1;rw[hwn,yD]at O;have hns:n=s.length:=by
        have:=jH List.length hkt;rw[O,lS]at this;have h3:s.length=min n s.length:=this;omega
       have hkk2:k'=⟨1,s,0⟩:=by rw[<-U,O];rfl
       refine⟨by rw[hkk2];rfl,?_⟩;rw[hns];simp[fH]
      .omega
   .have hat:L=s.length:=by omega
    have gh0:=@O0;repeat' (first
     |(apply aj ?_;clear hK K)|apply Rx.o ?_|apply aE ?_|(apply aA (fun o g=>?_) (fun o g=>?_)<;>try(cases o;done))|apply ah ?_|(apply ai fun K hK=>?_)|apply ak ?_|apply am ?_|apply aq ?_|apply aw ?_)
    refine⟨aD,_,(by(try simp only[aF,aW,Nat.reduceBEq,Nat.reduceAdd,Nat.reduceLeDiff,tyF,eh,eM,HW, *]);first|done|with_reducible rfl),?_⟩;try simp only[aC]
    refine⟨0,0,lv,rfl,i.set (.inl (aO _)) _,.inr ⟨rfl,ts,?_,Y,fun h=>?_⟩⟩
    .rcases J with h|⟨r,q1,q2,q3,q4,q5⟩
     .exact .inl h
     .exact .inr ⟨r,q1,by rw[a1,af ac];exact q2,q3,q4,q5⟩
    .rcases hnm h with⟨_,q⟩|⟨q,_⟩
     .have:=h.1;have:=h.2.1;omega
     .exact q
  .refine⟨fH false s,[],.ah,rfl,hsp,eE,eE,eE,eE,(jc _ _).alloc _,dL,zh,.inl ⟨rfl,rfl⟩,az,by simp[CB],fun _=>rfl,fun h=>.inl ⟨rfl,Yt h⟩⟩
end
section
def tyW4j.tyF:=ad @cR (ad @dt (ad @tO (ad @FX (ad @F0 (ad @Cl (ad @ft (ad @List.flatMap_cons.{0,0} (ad @List.flatMap_nil.{0,0} (@ve)))))))))
open tyW4j
noncomputable def O1:{c:SC // aI 44 (f85.body.getD .skip)=c}:=by
 refine⟨?_,?_⟩;rotate_left
 .simp only[f85,bS,aI,bM,bI,bT,bU,Nat.blt,Nat.ble];rfl
noncomputable def O2:{c:SC // aI 15 (f86.body.getD .skip)=c}:=by
 refine⟨?_,?_⟩;rotate_left
 .simp only[f86,bS,aI,bM,bI,bT,bU,Nat.blt,Nat.ble];rfl
theorem HX(hx:zd6 cfg)(z:zd0 cfg 85)(s:qw)(hs:s.length<2^60)(H:Hp):
 aY prog cfg 85 [.ai s] H fun v H'=>v=.bool (cZ s)/\FrB 0 H H':=by
 refine bF (M:=44) (rs:=[.tmp 2]) (z.call _) z.aD z.aq func85 rfl rfl O1.2 rfl ?_;dsimp only[O1,bA,Nat.reduceAdd];repeat' (first
  |(apply aj ?_;clear hK K)|apply Rx.o ?_|apply aE ?_|(apply aX (fun J g=>?_) (fun J g=>?_)<;>try(cases J;done))|(apply aA (fun o Z=>?_) (fun o Z=>?_)<;>try(cases o;done))|apply ah ?_|(apply ai fun K hK=>?_)|apply ak ?_|apply am ?_|apply aq ?_)
 refine qc ?_;refine bb ?_ (zce hx s hs H);rintro v H2 ⟨U,L,lv,rfl,I,j⟩;have hx1:Ab.extract (.aS [lv,.agg [.int .i64 U,.int .i64 L]]) 0=some lv:=rfl;have hx2:Ab.extract (.aS [lv,.agg [.int .i64 U,.int .i64 L]]) 1=some (.agg [.int .i64 U,.int .i64 L]):=rfl;dsimp only[aZ];have O:FrB 0 H ((H2.alloc qp).set H2.next (.cells [.int .i64 U,.int .i64 L] 0 true)):=(I.alloc _).set (.inl I.next) _;rcases j with⟨h1,h2⟩|⟨rfl,ts,C,Y,V⟩
 .have m:lJ s=false:=by
   cases o:lJ s with
   |false=>rfl
   |true=>exact(h2 ((CC s).1 o)).elim
  repeat' (first
   |(apply aj ?_;clear hK K)|apply Rx.o ?_|apply aE ?_|(apply aX (fun J g=>?_) (fun J g=>?_)<;>try(cases J;done))|(apply aA (fun o Z=>?_) (fun o Z=>?_)<;>try(cases o;done))|apply ah ?_|(apply ai fun K hK=>?_)|apply ak ?_|apply am ?_|apply aq ?_)
  all_goals refine qq ?_
  exact⟨HU,O⟩
 .rcases C with⟨rfl,rfl⟩|⟨r,rfl,q2,q3,q4,q5⟩
  .have m:lJ s=false:=by
    cases o:lJ s with
    |false=>rfl
    |true=>have:=V ((CC s).1 o);simp at this
   repeat' (first
    |(apply aj ?_;clear hK K)|apply Rx.o ?_|apply aE ?_|(apply aX (fun J g=>?_) (fun J g=>?_)<;>try(cases J;done))|(apply aA (fun o Z=>?_) (fun o Z=>?_)<;>try(cases o;done))|apply ah ?_|(apply ai fun K hK=>?_)|apply ak ?_|apply am ?_|apply aq ?_)
   all_goals refine qq ?_
   exact⟨HU,O⟩
  .have e1:(r == H2.next)=false:=by simp;omega
   by_cases hl:ts.length=1
   .obtain⟨k,rfl⟩:=List.length_eq_one_iff.1 hl;simp only[vD,Mm,jI]at q2;simp only[mC,bO]at hx1 hx2⊢;have i:tU s↔(k.am=1/\k.text=s):=⟨fun h=>by have:=V h;simp only[dR,aU]at this;rw[this];exact⟨rfl,rfl⟩,fun h=>Yu Y h.1 h.2⟩;have m:lJ s=(decide (k.am=1)&&decide (k.text=s)):=by
     rw[Bn,CC,i];simp
    clear i V Y;have hidx:ey prog 72 (.sl r 0 1 3) (.int .i64 0)=some (.ptr r 0):=aG;repeat' (first
     |(apply aj ?_;clear hK K)|apply Ry.o ?_|apply b8 ?_|(apply ct (fun J g=>?_) (fun J g=>?_)<;>try(cases J;done))|(apply bq (fun o Z=>?_) (fun o Z=>?_)<;>try(cases o;done))|apply ah ?_|(apply ai fun K hK=>?_)|apply ak ?_|apply am ?_|apply aq ?_)
    all_goals refine qq ?_
    all_goals (refine⟨?_,O⟩;simp only[cZ,m,tV];simp_all)
   .have m:lJ s=false:=by
     cases o:lJ s with
     |false=>rfl
     |true=>have:=V ((CC s).1 o);rw[this]at hl;simp at hl
    have hl2:decide ((ts.length:Int)=1)=false:=ca;repeat' (first
     |(apply aj ?_;clear hK K)|apply Rx.o ?_|apply aE ?_|(apply aX (fun J g=>?_) (fun J g=>?_)<;>try(cases J;done))|(apply aA (fun o Z=>?_) (fun o Z=>?_)<;>try(cases o;done))|apply ah ?_|(apply ai fun K hK=>?_)|apply ak ?_|apply am ?_|apply aq ?_)
    all_goals refine qq ?_
    exact⟨HU,O⟩
end
section
def tyW4k.tyF:=ad @cR (ad @dt (ad @ft (ad @ez (ad @fb (@eA)))))
open tyW4k
noncomputable def O3:{c:SC // aI 23 (f123.body.getD .skip)=c}:=by
 refine⟨?_,?_⟩;rotate_left
 .simp only[f123,bS,aI,bM,bI,bT,bU,Nat.blt,Nat.ble];rfl
noncomputable def O4:{c:SC // aI 27 (f143.body.getD .skip)=c}:=by
 refine⟨?_,?_⟩;rotate_left
 .simp only[f143,bS,aI,bM,bI,bT,bU,Nat.blt,Nat.ble];rfl
noncomputable def DI:{c:SC // aI 10 (f125.body.getD .skip)=c}:=by
 refine⟨?_,?_⟩;rotate_left
 .simp only[f125,bS,aI,bM,bI,bT,bU,Nat.blt,Nat.ble];rfl
def uF(k kids:Int):Bool:=if k=20\/k=21 then decide (kids=1)else decide (4<=k)&&decide (k<=18)&&decide (kids=2)
theorem zcf(L:zd0 cfg 123)(k kids:Int)(H:Hp):
 aY prog cfg 123 [.int .i64 k,.int .i64 kids] H fun v H'=>v=.bool (uF k kids)/\H'=H:=by
 refine bF (M:=23) (rs:=[.tmp 4]) (L.call _) L.aD L.aq func123 rfl rfl O3.2 rfl ?_;dsimp only[O3,bA,Nat.reduceAdd];repeat' (first
  |(apply aj ?_;clear hK K)|apply Rx.o ?_|(apply aX (fun J g=>?_) (fun J g=>?_)<;>try(cases J;done))|(apply aA (fun o Z=>?_) (fun o Z=>?_)<;>try(cases o;done))|apply ah ?_|(apply ai fun K hK=>?_)|apply am ?_|apply aq ?_)
 all_goals
  all_goals refine qq ?_
 all_goals (refine⟨?_,gS⟩;simp_all[uF]<;>omega)
theorem zcg(L:zd0 cfg 143)(x:Ex)(H:Hp):
 aY prog cfg 143 [.agg x.cells] H fun v H'=>v=.bool (zeroE x)/\FrB 0 H H':=by
 refine bF (M:=27) (rs:=[.tmp 2]) (L.call _) L.aD L.aq func143 rfl rfl O4.2 rfl ?_;dsimp only[O4,bA,Nat.reduceAdd];repeat' (first
  |(apply aj ?_;clear hK K)|apply Rx.o ?_|(apply aX (fun J g=>?_) (fun J g=>?_)<;>try(cases J;done))|apply ah ?_|(apply ai fun K hK=>?_)|apply aq ?_)
 all_goals
  all_goals refine qq ?_
 all_goals (refine⟨?_,(jc _ _).alloc _⟩;simp_all[zeroE])
def nT(s:qw)(K:Bool):Bool:=if K then cZ s else decide (s=[])
def zch(I:zd6 cfg)(V:zd0 cfg 85)(L:zd0 cfg 125)(s:qw)(Z:Bool)(Y:s.length<2^60)(H:Hp):
 aY prog cfg 125 [.ai s,.bool Z] H fun v H'=>v=.bool (nT s Z)/\FrB 0 H H':=by
 cases Z
 .refine bF (M:=10) (rs:=[.tmp 4]) (L.call _) L.aD L.aq func125 rfl rfl DI.2 rfl ?_;dsimp only[DI,bA,Nat.reduceAdd];repeat' (first
   |(apply aj ?_;clear hK K)|apply Rx.o ?_|(apply aA (fun o g=>?_) (fun o g=>?_)<;>try(cases o;done))|apply ah ?_|(apply ai fun K hK=>?_)|apply am ?_|apply aq ?_)
  all_goals refine qq ?_
  exact⟨by simp[nT],jc _ _⟩
 .refine bF (M:=10) (rs:=[.tmp 4]) (L.call _) L.aD L.aq func125 rfl rfl DI.2 rfl ?_;dsimp only[DI,bA,Nat.reduceAdd];repeat' (first
   |(apply aj ?_;clear hK K)|apply Rx.o ?_|(apply aA (fun o g=>?_) (fun o g=>?_)<;>try(cases o;done))|apply ah ?_|(apply ai fun K hK=>?_)|apply am ?_|apply aq ?_)
  refine qc ?_;refine bb ?_ (HX I V s Y H);rintro v O ⟨rfl,U⟩;dsimp only[aZ];repeat' (first
   |(apply aj ?_;clear hK K)|apply Rx.o ?_|(apply aA (fun o g=>?_) (fun o g=>?_)<;>try(cases o;done))|apply ah ?_|(apply ai fun K hK=>?_)|apply am ?_|apply aq ?_)
  all_goals refine qq ?_
  exact⟨by simp[nT],U⟩
theorem zci(I:zd6 cfg)(J:zd0 cfg 85)(L:zd0 cfg 86)(l:qt)(hz:dU l<2^60)(H:Hp):
 aY prog cfg 86 [cM l] H fun v H'=>v=.bool (l.all cZ)/\FrB 0 H H':=by
 have hl:l.length<2^60:=by have:=jO l;omega
 refine bF (M:=15) (rs:=[.tmp 2]) (L.call _) L.aD L.aq func86 rfl rfl O2.2 rfl ?_;dsimp only[O2,bA,Nat.reduceAdd];repeat' (first
  |(apply aj ?_;clear hK K)|apply Rx.o ?_|(apply aA (fun o g=>?_) (fun o g=>?_)<;>try(cases o;done))|apply ah ?_|(apply ai fun K hK=>?_)|apply ak ?_|apply am ?_|apply aq ?_|apply aw ?_)
 refine pQ (fun i E V=>l.all cZ=(l.drop i).all cZ/\E.at 5=.ao (l.map fun s=>[.ai s])/\E.at 6=.int .i64 l.length/\E.at 7=.int .i64 i/\FrB 0 H V) l.length ?_ ?_
 .rintro i E V C ⟨hc,h5,h6,h7,U⟩;repeat' (first
   |(apply aj ?_;clear hK K)|apply Rx.o ?_|(apply aA (fun o g=>?_) (fun o g=>?_)<;>try(cases o;done))|apply ah ?_|(apply ai fun K hK=>?_)|apply ak ?_|apply am ?_|apply aq ?_|apply aw ?_)
  .have z:i<l.length:=by simpa using o
   have m:l[i]?=some l[i]:=a0 z;have j:=Cw (cL z);have Y:(l.drop i).all cZ=(cZ l[i]&&(l.drop (i+1)).all cZ):=vZ;repeat' (first
    |(apply aj ?_;clear hK K)|apply Rx.o ?_|(apply aA (fun o g=>?_) (fun o g=>?_)<;>try(cases o;done))|apply ah ?_|(apply ai fun K hK=>?_)|apply ak ?_|apply am ?_|apply aq ?_|apply aw ?_)
   refine qc ?_;refine bb ?_ (HX I J l[i] ac V);rintro v H3 ⟨rfl,Z⟩;dsimp only[aZ];repeat' (first
    |(apply aj ?_;clear hK K)|apply Rx.o ?_|(apply aA (fun o g=>?_) (fun o g=>?_)<;>try(cases o;done))|apply ah ?_|(apply ai fun K hK=>?_)|apply ak ?_|apply am ?_|apply aq ?_|apply aw ?_)
   .all_goals refine qq ?_
    exact⟨by rw[hc,Y];simp_all,U.trans Z⟩
   .refine⟨z,by rw[hc,Y];simp_all,eE,eE,?_,U.trans Z⟩;simp only[jK,Nat.reduceBEq,jg,hT (show i<2^62 by omega)]
  .all_goals refine qq ?_
   have O:i=l.length:=p9;exact⟨by rw[hc,O];simp,U⟩
 .exact⟨az,eE,eE,eE,jc _ _⟩
end
end Go.Proofs.Ytbflaciihaijgaa
