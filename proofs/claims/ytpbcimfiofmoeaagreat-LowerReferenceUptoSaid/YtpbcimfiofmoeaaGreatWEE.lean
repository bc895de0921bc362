/- Lemmas for the last file. -/
import Derived.Below
import Derived.ChangeSame
import Derived.IntWalk
import Derived.Test.YtpbcimfiofmoeaaGreatWED
set_option linter.all false
set_option maxHeartbeats 32000000
namespace Go.Ab
set_option maxRecDepth 20000
open Go
variable{qe:Prop}
def Ak(h:qe:=by rw[I];simp):=h
def HJ(h:qe:=by simp only[jj,h,h1]):=h
def sK(h:qe:=by simp[eD,uM,kK]):=h
def Db(h:qe:=by unfold gO;rw[h]):=h
def Md(h:qe:=by simp only[aC,jY,beq_self_eq_true,cond_true]):=h
def Dc:=@Nat.le_max_left
def Dd:=@Nat.le_max_right
def wG:=@Int.eq_ofNat_of_zero_le
def hT:=@Bool.and_true
def wH:=@Bool.not_true
def mp:=@Bool.false_or
def nV:=@and_self
def hY:=@List.drop_zero
end Go.Ab
namespace Go.Ab
set_option maxRecDepth 20000
open Go Go.RowKit Go.WideShapes Go.ChangeShapes
variable{w:World}{G:Gh}{cfg:Cfg}{m r n k N s i:Nat}{V vs z cs O:qu}{P:Program}{ih:zd4->Res}{f:FuncId}{o:Oper}{t e:TypeId}{Z:Func}{c:Code}{v a:AV}{K:AV->Hp->Prop}{Q:AX->aq->Hp->Prop}{b:Bool}{M:Array (Nat×Operand)}{lo I:Option Operand}{x:Operand}{j:Hp}
theorem WG(r:Nat):bt.get r=none:=rfl
def R.start(j:∀b o v,G.F b o=some v->w.cell? ⟨b,o,none⟩=some v)(hb:∀r,G.β r=none)(m:pO cfg.dI G.ρ):R ⟨w.heap.size,G.ρ,cfg⟩ bt w G:=by
 refine⟨ay _,?_,?_,?_,?_,?_,?_,?_,?_,?_,j,rfl,m,?_⟩<;>intros<;>simp_all
theorem x6{g:AV->qE}:∀{I Z:qu},iceL g I=some Z->Z.length=I.length/\∀(i:Nat) d,Z[i]?=some d->∃c,I[i]?=some c/\g c=some d
 |[],Z,h=>by
  simp only[iceL,aQ]at h;simp_all
 |c::I,Z,h=>by
  simp only[iceL]at h;split at h
  .rename_i d j m Y;simp only[aQ]at h;subst h;obtain⟨C,V⟩:=x6 Y
   grind
  .simp at h
theorem Me{g:AV->qE}:∀{I Z:List qu},uU g I=some Z->Z.length=I.length/\∀(i:Nat) d,Z[i]?=some d->∃c,I[i]?=some c/\iceL g c=some d
 |[],Z,h=>by
  simp only[uU,aQ]at h;simp_all
 |c::I,Z,h=>by
  simp only[uU]at h;split at h
  .rename_i d j m Y;simp only[aQ]at h;subst h;obtain⟨C,V⟩:=Me Y
   grind
  .simp at h
theorem Al{H:Hp}{G G2:Gh}{w:World}(hρ:G2.ρ=G.ρ)(hF:∀b o v,G.F b o=some v->G2.F b o=some v)
 (C:∀r b o x cs imm tip,G.β r=some (b,o,x)->H.get r=some (.cells cs imm tip)->jK G w b o cs/\∀j v,w.cell? ⟨b,o+j,none⟩=some v->G2.F b (o+j)=some v) :
 ∀(n:Nat) (v:AV) (x:Value) (q:AV),VR G v x->iceV H n v=some q->VR G2 q x
 |0,_,_,_,_,h=>by simp[iceV]at h
 |n+1,v,x,q,hv,h=>by
  have hlist:∀{cs ds:qu}{vs:qH},cc G cs vs->iceL (iceV H n) cs=some ds->cc G2 ds vs:=fun{cs ds vs} Y hi=>by
   obtain⟨h1,h2⟩:=x6 hi;refine⟨by rw[h1];exact Y.1,fun i d u hd hu=>?_⟩;obtain⟨c,hc,hcd⟩:=h2 i d hd;exact Al hρ hF C n c u d (Y.2 i c u hc hu) hcd
  cases hv with
  |int k a=>simp only[iceV,aQ]at h;subst h;exact .int _ _
  |sx k e=>simp only[iceV,aQ]at h;subst h;rw[<-hρ];exact .sx _ _
  |bool b=>simp only[iceV,aQ]at h;subst h;exact .bool _
  |aj s l hs=>simp only[iceV,aQ]at h;subst h;exact .aj _ _ hs
  |b0=>simp only[iceV,aQ]at h;subst h;exact .b0
  |bD=>simp only[iceV,aQ]at h;subst h;exact .bD
  |ch=>simp only[iceV,aQ]at h;subst h;exact .ch
  |ag=>simp only[iceV,aQ]at h;subst h;exact .ag
  |ptr _=>simp[iceV]at h
  |bI _ _ _=>simp[iceV]at h
  |map _=>simp[iceV]at h
  |bJ _ _=>simp[iceV]at h
  |agg hl Y=>
   simp only[iceV]at h;split at h
   .rename_i ds hds;simp only[aQ]at h;subst h;have:=hlist ⟨hl,Y⟩ hds;exact .agg this.1 this.2
   .simp at h
  |a6 hl Y=>
   simp only[iceV]at h;split at h
   .rename_i ds hds;simp only[aQ]at h;subst h;have:=hlist ⟨hl,Y⟩ hds;exact .a6 this.1 this.2
   .simp at h
  |lst0 a cap=>
   simp only[iceV,uU,aQ]at h;subst h;exact .lst0 _ _
  |az vs hz hFx hvx hc=>
   rename_i xs b o cap z;simp only[iceV]at h;split at h
   .rename_i ys hys;simp only[aQ]at h;subst h;obtain⟨h1,h2⟩:=Me hys;rw[<-h1];refine .az vs (z:=z) (fun i I hr=>?_) (fun i j hi hj=>hF _ _ _ (hFx i j ac hj)) (fun i j I c hr hcj=>?_) (by rw[h1];exact hc)
    .obtain⟨c,hc1,hc2⟩:=h2 i I hr;rw[(x6 hc2).1];exact hz i c hc1
    .obtain⟨c0,hc1,hc2⟩:=h2 i I hr;obtain⟨c1,hc3,hc4⟩:=(x6 hc2).2 j c hcj;exact Al hρ hF C n c1 (vs i j) c (hvx i j c0 c1 hc1 hc3) hc4
   .simp at h
  |sl hr hl hcx=>
   rename_i r V Z z b o xx cap;simp only[iceV]at h;split at h
   .rename_i cs imm tip hg;split at h
    .rename_i l hil;split at h
     .rename_i J;simp only[aQ]at h;subst h;obtain⟨hh,hnew⟩:=C r b o xx cs imm tip hr hg;obtain⟨h1,h2⟩:=x6 hil;have M:∀(m:Nat) c,l[m]?=some c->∃v,w.cell? ⟨b,o+V+m,none⟩=some v/\VR G2 c v:=fun m c hm=>by
       obtain⟨c0,hc0,hc1⟩:=h2 m c hm;rw[uX]at hc0;split at hc0
       .rw[zO]at hc0;obtain⟨v,O,hv2⟩:=hh _ _ hc0;exact⟨v,by rw[iH];exact O,Al hρ hF C n c0 v c hv2 hc1⟩
       .simp at hc0
      have hlc:=HF z Z l;have hin:∀i j,i<Z->j<z->i*z+j<l.length:=fun i j hi hj=>by
       rw[J]
       calc i*z+j<i*z+z:=by omega
        _=(i+1)*z:=by rw[wA,C1]
        _<=Z*z:=zX _ hi
      have key:VR G2 (.az (jI z Z l)) (.slice (some ⟨b,o+V,none⟩) (jI z Z l).length cap):=by
       refine .az (fun i j=>(w.cell? ⟨b,o+V+(i*z+j),none⟩).getD undef) (z:=z) (fun i I U=>(Ai z Z l i I J U).1) (fun i j hi hj=>?_) (fun i j I c U hcj=>?_) (by rw[hlc];exact hl)
       .rw[hlc]at hi;have hm:=hin i j hi hj;obtain⟨v,O,_⟩:=M (i*z+j) _ (bj hm);rw[O];have:=hnew (V+(i*z+j)) v (by rw[<-iH];exact O);rw[show o+V+i*z+j=o+(V+(i*z+j)) by omega];exact this
       .have hm:=(Ai z Z l i I J U).2 j c hcj;obtain⟨v,O,hv2⟩:=M (i*z+j) c hm;rw[O];exact hv2
      simp_all
     .simp at h
    .simp at h
   .simp at h
def WH(w:World){G2:Gh}(C:G2.ρ=G.ρ)(J:∀b o v,G.F b o=some v->G2.F b o=some v)(h:uV m V=true){vs:qH}(M:cc G V vs):cc G2 V vs:=by
 unfold uV at h;split at h
 .rename_i j Y;have:=rJ h;subst this;obtain⟨h1,h2⟩:=x6 Y;refine⟨M.1,fun i c v hc Z=>?_⟩;obtain⟨c0,O,U⟩:=h2 i c hc;rw[hc]at O;simp only[aQ]at O;subst O;exact Al (H:=bt) (w:=w) C J (fun r b o x cs z I _ hg=>by simp[WG]at hg) m c v c (M.2 i c v hc Z) U
 .simp at h
def HK{H H':Hp}{r:AV}(h:pL P ih f V H=.val r H'):∃Z,P.funcs[f]?=some Z/\Z.body.isSome=true:=by
 unfold pL at h
 grind
theorem WI{ρ:Nat->Int}(M:∀f V r,cfg.call f V=some r->bX P ρ f V r){f:FuncId}{V:qu}{H H':Hp}{r:AV}(h:dL P cfg n (.call f V H)=.val r H'):
 ∃Z,P.funcs[f]?=some Z/\Z.body.isSome=true:=by
 cases n with
 |zero=>simp[dL]at h
 |succ n=>
  have J:dL P cfg (n+1)=step P cfg (dL P cfg n):=rfl;rw[J]at h;simp only[step]at h;split at h
  .rename_i j hr;exact(M f V j hr).1
  .have z:∀{r:AV}{H':Hp},pN P cfg (dL P cfg n) f V H=.val r H'->∃Z,P.funcs[f]?=some Z/\Z.body.isSome=true:=fun{r H'} h=>by
    unfold pN at h;split at h
    .unfold zJ at h;split at h
     .split at h
      .rename_i hr;exact(M _ _ _ hr).1
      .exact HK h
     .exact HK h
    .exact HK h
   unfold xQ at h
   grind
def Mf(fit:Fit P){ρ:Nat->Int}(hD:pO cfg.dI ρ)(hc:∀f V r,cfg.call f V=some r->bX P ρ f V r){f:FuncId}{V:qu}{r:AV}
 (hp:uV k V=true) (h:CD P cfg n m f V=some r):bX P ρ f V r:=by
 unfold CD at h;split at h
 .rename_i v0 H' O;refine⟨WI hc O,fun G w vs C J Y=>?_⟩;subst C;have hv0:cc {G with β:=fun _=>none} V vs:=WH w (G:=G) (G2:={G with β:=fun _=>none}) rfl (fun _ _ _ h=>h) hp Y;have hr0:R ⟨w.heap.size,G.ρ,cfg⟩ bt w {G with β:=fun _=>none}:=R.start (G:={G with β:=fun _=>none}) J (fun _=>rfl) hD;refine((Mc (B:=⟨w.heap.size,G.ρ,cfg⟩) fit hc n).call f V bt _ H' O _ w vs hr0 hv0).2.mono fun e I hh=>?_;obtain⟨x,G',rfl,hx,U⟩:=hh;have Z:Below w.heap.size w I:=⟨U.fr.os,U.fr.tape,U.fr.output,U.fr.size,fun k hk=>U.fr.block k hk (fun r b o x hr=>by simp at hr)⟩;refine⟨x,fun b o=>if b<w.heap.size then G.F b o else I.cell? ⟨b,o,none⟩,rfl,?_,Z,fun b o v Y=>?_,fun b o v Y=>?_,fun b o v Y=>?_⟩
  .refine Al (G:=G') (w:=I) (H:=H') ?_ (fun b o v Y=>?_) (fun r b o x cs z tip hr hg=>?_) m v0 x r hx h
   .exact U.ext.ρ.symm
   .rcases U.dj b o v Y with M|M
    .show(if b<w.heap.size then G.F b o else I.cell? ⟨b,o,none⟩)=some v;rw[ai (rE (J b o v M))];exact M
    .show(if b<w.heap.size then G.F b o else I.cell? ⟨b,o,none⟩)=some v;rw[af bb];exact U.r.dB b o v Y
   .refine⟨U.r.cells r b o x cs z tip hr hg,fun j v hj=>?_⟩;have M:w.heap.size<=b:=(U.r.lt r b o x hr).1
    grind
  .rw[ai (rE (J b o v Y))];exact Y
  .grind
  .split at Y
   .rename_i hb;rw[(HE Z hb).1];simp_all
   .exact Y
 .simp at h
def WJ{ρ:Nat->Int}{b:Bool}(h:bX P ρ f V (.bool b)){vs:qH}{F:Nat->Nat->qS}
 (O:∀b o v,F b o=some v->w.cell? ⟨b,o,none⟩=some v) (Z:cc ⟨fun _=>none,F,ρ⟩ V vs) :
 Calls P f vs.toArray w (fun e I=>e=.returned (.bool b)/\Below w.heap.size w I):=by
 refine(h.2 ⟨fun _=>none,F,ρ⟩ w vs rfl O Z).mono fun e I z=>?_;obtain⟨v,Y,rfl,hr,hg⟩:=z;cases hr;exact⟨rfl,hg.below⟩
def WK(fit:Fit P){ρ:Nat->Int}(Z:pO cfg.dI ρ)(M:∀f V r,cfg.call f V=some r->bX P ρ f V r){f:FuncId}{V:qu}{r:AV}
 (Y:uV k V=true) (h:GI P cfg n m f V r=true):bX P ρ f V r:=by
 unfold GI at h;split at h
 .rename_i q U;rw[<-AV.bh h];exact Mf fit Z M Y U
 .simp at h
def u5(ρ:Nat->Int):pO (fun _ _ _=>none) ρ:=fun _ _ _ _ _ h=>pP
def Am(P:Program)(ρ:Nat->Int):List (FuncId×qu×AV)->Prop
 |[]=>True
 |p::l=>bX P ρ p.1 p.2.1 p.2.2/\Am P ρ l
theorem De{P:Program}{ρ:Nat->Int}:∀{l:List (FuncId×qu×AV)},Am P ρ l->∀f V r,wu l f V=some r->bX P ρ f V r
 |[],_,_,_,_,h=>by simp[wu]at h
 |p::l,hk,f,V,r,h=>by
  simp only[wu]at h;split at h
  .rename_i j;split at h
   .rename_i O;simp only[aQ]at h;subst h;rw[<-rH j,<-rJ O];exact hk.1
   .exact De hk.2 f V r h
  .exact De hk.2 f V r h
def An:List (Nat×Nat×zf4)->FuncId->Nat->zf4
 |[],_,_=>.text
 |p::l,f,id=>match Nat.beq p.1 f with
  |true=>match Nat.beq p.2.1 id with
   |true=>p.2.2
   |false=>An l f id
  |false=>An l f id
def WL(pls:List (Nat×Nat×zf4))(l:List (FuncId×qu×AV)):Cfg:={keep:=fun _=>false,call:=wu l,aG:=fun f=>l.any fun p=>Nat.beq p.1 f,ca:=An pls}
def WM(fit:Fit P){ρ:Nat->Int}{pls:List (Nat×Nat×zf4)}{l:List (FuncId×qu×AV)}(O:Am P ρ l){r:AV}
 (Z:uV k V=true) (h:GI P (WL pls l) n m f V r=true):bX P ρ f V r:=WK fit (u5 ρ) (De O) Z h
def Mg(P:Program):Bool:=P.funcs.all (fun Z=>!(Z.body.isSome&&Z.name == "runtime.NumGoroutine"))&&P.follows .mixedOrders
def Fit.of(h:Mg P=true):Fit P:=by
 simp only[Mg,da]at h;refine⟨fun f Z j hb=>?_,h.2⟩
 grind
section
variable {H:Type} {enc:TypeId × Value -> H} {P:Program}
def WN{f:Func}{s:ChangeSpec}{apart M Z I:Bool}{W z:World}{V:Array Value}{v:Value}{ds gs:List (DataW H)}{J pa pv:List MemPlace}
 (hW:DataW.Whole enc P f.params.toList s.vars apart W V.toList ds gs J)
 (U:∀(b:Nat) (C:Nat->Bool) (hd:Bool),DataW.TrodAll enc P z b C hd f.resultTypes.toList (v.resultList f.resultTypes.size) (s.fn H (ds++gs)).results [])
 (Y:∀C:Nat->Bool,(∀p∈J,C p.block=true)->DataW.TrodAll enc P z 0 C true f.params.toList V.toList (s.fn H (ds++gs)).args pa)
 (m:∀C:Nat->Bool,(∀p∈J,C p.block=true)->DataW.TrodVars enc P z C s.vars (s.fn H (ds++gs)).vars pv)
 (hps:J=pa++pv) (hb:Below W.heap.size W z)
 (hok:∀(j:Nat) (t:TypeId) (r:Value),f.resultTypes[j]?=some t->(v.resultList f.resultTypes.size)[j]?=some r->Value.okWide P z .any 0 t r) :
 s.post enc P f apart M Z I W V v z:=by
 have hlt:∀p∈J,p.block<W.heap.size:=fun p hp=>hW.lt p hp;have O:∀p∈J,(fun b=>decide (b<W.heap.size)) p.block=true:=fun p hp=>bb;refine⟨ds,gs,J,[],pa,pv,hW,U _ _ _,Y _ O,m _ O,World.keptBut_mono (fun p hp=>⟨hp,?_⟩) (hb.frame (·∈ J)),fun _=>?_⟩
 .simp_all
 .obtain⟨_,_,_,_,_,hz,hn⟩:=hW;refine⟨hok,_,_,([]++pa)++pv,⟨[]++pa,pv,trodAll_append (Y _ (fun _ _=>rfl)) (U _ _ _),m _ (fun _ _=>rfl),rfl,?_,?_⟩,?_⟩
  .intro b off hp;have hin:MemPlace.cell b off∈J:=by rw[hps];simpa using hp
   rw[hb.frozen (hlt _ hin)];exact hz b off hin
  .intro ha;have:=hn ha;rw[hps]at this;simpa using this
  simp_all
end
open Go
def ea(ih ih':zd4->Res):Prop:=∀t,ih t≠.aY->ih' t=ih t
section
variable {P:Program} {cfg:Cfg} {ih ih':zd4 -> Res}
def Df(h:ea ih ih'){E:aq}{H:Hp}{op:Op}(J:eF P cfg ih f E H op≠.aY):eF P cfg ih' f E H op=eF P cfg ih f E H op:=by
 unfold eF at *;split
 .rename_i c;unfold uQ at *;split
  .rename_i g hg;simp only[hg]at J;split
   .rename_i k z vs m j;simp only[m,j]at J;exact h _ J
   .rfl
  .rfl
  .rfl
 .rfl
theorem Ao{f:Nat}{m:qB}{l:qB}{E:aq}{H:Hp}:kL P cfg ih f N m (o::l) E H=match jT m E o with
 |true=>match eF P cfg ih f E H o.op with
  | .val v H=>lc (kL P cfg ih f N m l) H (fN N E o.dst v)
  |_=>.aY
 |false=>lc (kL P cfg ih f N m l) H (fN N E o.dst dH):=rfl
theorem Dg(h:ea ih ih'){f N:Nat}{m:qB}:∀{l:qB}{E:aq}{H:Hp},kL P cfg ih f N m l E H≠.aY->kL P cfg ih' f N m l E H=kL P cfg ih f N m l E H
 |[],_,_,_=>rfl
 |o::l,E,H,hn=>by
  rw[Ao]at hn⊢;rw[Ao];cases Z:jT m E o with
  |true=>
   simp only[Z]at hn⊢;cases M:eF P cfg ih f E H o.op with
   |aY=>simp[M]at hn
   |done x E1 H1=>simp[M]at hn
   |val v H1=>
    rw[Df h (by rw[M];simp),M];simp only[M]at hn⊢;cases hp:fN N E o.dst v with
    |none=>rfl
    |some E1=>
     rw[hp]at hn;exact Dg h hn
  |false=>
   simp only[Z]at hn⊢;cases hp:fN N E o.dst dH with
   |none=>rfl
   |some E1=>
    rw[hp]at hn;exact Dg h hn
theorem Dh(h:ea ih ih'){f N:Nat}{m:qB}:∀{l:qB}{E:aq}{H:Hp},jU P cfg ih f N m l E H≠.aY->jU P cfg ih' f N m l E H=jU P cfg ih f N m l E H
 |[],_,_,_=>rfl
 |o::l,E,H,hn=>by
  have z:∀{r:Rec}{x:zik},pJ r x≠.aY->x≠.aY:=fun{r x} hx e=>hx (by rw[e];rfl);simp only[jU]at hn⊢;cases Z:jT m E o with
  |true=>
   simp only[Z]at hn⊢;cases M:eF P cfg ih f E H o.op with
   |aY=>simp[M]at hn
   |done x E1 H1=>simp[M]at hn
   |val v H1=>
    rw[Df h (by rw[M];simp),M];simp only[M]at hn⊢;cases hp:fN N E o.dst v with
    |none=>rfl
    |some E1=>
     rw[hp]at hn;have:=Dh h (z hn);simp only[pK,this]
  |false=>
   simp only[Z]at hn⊢;cases hp:fN N E o.dst dH with
   |none=>rfl
   |some E1=>
    rw[hp]at hn;have:=Dh h (z hn);simp only[pK,this]
def Di(h:ea ih ih'){f:Nat}{ops:qB}{E:aq}{H:Hp}(J:jV P cfg ih f N ops E H≠.aY):jV P cfg ih' f N ops E H=jV P cfg ih f N ops E H:=by
 unfold jV at *;split
 .rename_i hc;simp only[hc]at J;cases hr:jU P cfg ih f N ops ops E H with
  |aY=>simp[hr]at J
  |done E1 H1 rs=>rw[Dh h (by rw[hr];simp),hr]
 .rfl
def WO{ops:qB}{I M C Z:Res}(h1:I≠.aY->C=I)(h2:M≠.aY->Z=M)(J:uT ops I M≠.aY):uT ops C Z=uT ops I M:=by
 have z:I≠.aY:=fun e=>J (by rw[e];rfl);have Y:M≠.aY:=fun e=>J (by rw[e];unfold uT;simp_all);rw[h1 z,h2 Y]
theorem HL(h:ea ih ih'){f N:Nat}{E:aq}{H:Hp}:∀{Z:zf4}{ops:qB},jW P cfg ih f N E H Z ops≠.aY->jW P cfg ih' f N E H Z ops=jW P cfg ih f N E H Z ops
 | .text,ops,hn=>Di h hn
 | .cn ord,ops,hn=>by
   simp only[jW]at *;split
   .rename_i hp;simp only[hp]at hn;exact Di h hn
   .rfl
 | .split p q a b,ops,hn=>by
   simp only[jW]at *;split
   .rfl
   .rename_i hp;simp only[hp]at hn;exact WO (fun m=>HL h m) (fun j=>HL h j) hn
def HM(h:ea ih ih'){H:Hp}(J:pL P ih f V H≠.aY):pL P ih' f V H=pL P ih f V H:=by
 unfold pL at *;split
 .rename_i Z j;simp only[j]at J;split
  .rename_i c hb;simp only[hb]at J;cases hr:ih (.aS f (max Z.ntmps V.length) c (bm 0 V (wr (max Z.ntmps V.length))) H)with
   |aY=>simp[hr]at J
   |val v H1=>simp_all
   |done x E1 H1=>rw[h _ (by rw[hr];simp),hr]
  .rfl
 .rfl
def WP(h:ea ih ih'){H:Hp}(J:pN P cfg ih f V H≠.aY):pN P cfg ih' f V H=pN P cfg ih f V H:=by
 unfold pN at *;split
 .rename_i I;simp only[I]at J;unfold zJ at *;split
  .rename_i m H' U;simp only[U]at J;split
   .rfl
   .rename_i Z;simp only[Z]at J;exact HM h J
  .rename_i U;simp only[U]at J;exact HM h J
 .rename_i I;simp only[I]at J;exact HM h J
theorem Mh(h:ea ih ih'){f:Nat}{b:Code}{r j:Res}(hr:r≠.aY->j=r)(J:pM ih f N b r≠.aY):pM ih' f N b j=pM ih f N b r:=by
 cases r with
 |aY=>simp[pM]at J
 |val v H1=>rw[hr aw];rfl
 |done x E1 H1=>
  rw[hr aw];cases x with
  |normal=>exact h _ J
  |exit id=>rfl
  |ret=>rfl
theorem WQ(h:ea ih ih'){t:zd4}(J:step P cfg ih t≠.aY):step P cfg ih' t=step P cfg ih t:=by
 cases t with
 |call f V H=>
  simp only[step]at *;split
  .rfl
  .rename_i hc;simp only[hc]at J;have z:pN P cfg ih f V H≠.aY:=fun e=>J (by rw[e];unfold xQ;simp_all);rw[WP h z]
 |aS f N c E H=>
  cases c with
  |region id ops draw=>cases draw with
   |false=>exact Dg h J
   |true=>exact HL h J
  |seq a b=>exact Mh h (h _) J
  |loop a=>exact Mh h (h _) J
  |cond x a b=>
   simp only[step]at *;unfold wt at *;split
   .rename_i hc;simp only[hc]at J;exact h _ J
   .rename_i hc;simp only[hc]at J;exact h _ J
   .rfl
  |block id a=>
   simp only[step]at *;cases hr:ih (.aS f N a E H)with
   |aY=>simp[hr,oK]at J
   |val v H1=>rw[h _ (by rw[hr];simp),hr]
   |done x E1 H1=>rw[h _ (by rw[hr];simp),hr]
  |_=>rfl
theorem Mi:∀n,ea (dL P cfg n) (dL P cfg (n+1))
 |0=>fun _ J=>(J rfl).elim
 |n+1=>fun _ J=>WQ (Mi n) J
def Ap(Y:n<=m){t:zd4}(J:dL P cfg n t≠.aY):dL P cfg m t=dL P cfg n t:=by
 induction m with
 |zero=>simp_all
 |succ m ih=>
  by_cases h:n=m+1
  .rw[h]
  .have:=ih ac;rw[Mi m t bb,this]
def Dj(Y:n<=m){t:zd4}{r:Res}(h:dL P cfg n t=r)(hr:r≠.aY):dL P cfg m t=r:=by
 rw[Ap Y (by rw[h];exact hr),h]
def dG(P:Program)(cfg:Cfg)(t:zd4)(r:Res):Prop:=r≠.aY/\∃n,dL P cfg n t=r
def dG.step{t:zd4}{r:Res}(hr:r≠.aY)(h:Ab.step P cfg (dL P cfg n) t=r):dG P cfg t r:=⟨hr,n+1,h⟩
def lj:=@dG.step
section
variable {f N id:Nat} {a b:Code} {x:Operand} {E E1:aq} {H H1:Hp} {r:Res} {ex:AX}
def dG.seq(h1:dG P cfg (.aS f N a E H) (.done .normal E1 H1))(h2:dG P cfg (.aS f N b E1 H1) r):dG P cfg (.aS f N (.seq a b) E H) r:=by
 obtain⟨_,n,h1⟩:=h1;obtain⟨hr,m,h2⟩:=h2;refine lj hr (n:=max n m) ?_;show pM (dL P cfg (max n m)) f N b (dL P cfg (max n m) (.aS f N a E H))=r;rw[Dj (Dc n m) h1 aw];exact Dj (Dd n m) h2 hr
theorem Mj(h1:dG P cfg (.aS f N a E H) (.done ex E1 H1))(C:ex≠.normal):dG P cfg (.aS f N (.seq a b) E H) (.done ex E1 H1):=by
 obtain⟨hr,n,h1⟩:=h1;refine lj hr (n:=n) ?_;show pM (dL P cfg n) f N b (dL P cfg n (.aS f N a E H))=_;rw[h1];cases ex with
 |normal=>simp_all
 |exit id=>rfl
 |ret=>rfl
def dG.loop(h1:dG P cfg (.aS f N a E H) (.done .normal E1 H1))(h2:dG P cfg (.aS f N (.loop a) E1 H1) r):dG P cfg (.aS f N (.loop a) E H) r:=by
 obtain⟨_,n,h1⟩:=h1;obtain⟨hr,m,h2⟩:=h2;refine lj hr (n:=max n m) ?_;show pM (dL P cfg (max n m)) f N (.loop a) (dL P cfg (max n m) (.aS f N a E H))=r;rw[Dj (Dc n m) h1 aw];exact Dj (Dd n m) h2 hr
theorem Mk(h1:dG P cfg (.aS f N a E H) (.done ex E1 H1))(C:ex≠.normal):dG P cfg (.aS f N (.loop a) E H) (.done ex E1 H1):=by
 obtain⟨hr,n,h1⟩:=h1;refine lj hr (n:=n) ?_;show pM (dL P cfg n) f N (.loop a) (dL P cfg n (.aS f N a E H))=_;rw[h1];cases ex with
 |normal=>simp_all
 |exit id=>rfl
 |ret=>rfl
def WR(C:aT E x=some (.bool true))(h:dG P cfg (.aS f N a E H) r):dG P cfg (.aS f N (.cond x a b) E H) r:=by
 obtain⟨hr,n,h⟩:=h;refine lj hr (n:=n) ?_;show wt (dL P cfg n) f N x a b E H=r;unfold wt;rw[C];exact h
def WS(C:aT E x=some (.bool false))(h:dG P cfg (.aS f N b E H) r):dG P cfg (.aS f N (.cond x a b) E H) r:=by
 obtain⟨hr,n,h⟩:=h;refine lj hr (n:=n) ?_;show wt (dL P cfg n) f N x a b E H=r;unfold wt;rw[C];exact h
def dG.block(h:dG P cfg (.aS f N a E H) (.done (.exit id) E1 H1)):dG P cfg (.aS f N (.block id a) E H) (.done .normal E1 H1):=by
 obtain⟨hr,n,h⟩:=h;refine lj aw (n:=n) ?_;show oK id (dL P cfg n (.aS f N a E H))=_;rw[h];simp[oK]
theorem WT(h:dG P cfg (.aS f N a E H) (.done .normal E1 H1)):dG P cfg (.aS f N (.block id a) E H) (.done .normal E1 H1):=by
 obtain⟨hr,n,h⟩:=h;refine lj aw (n:=n) ?_;show oK id (dL P cfg n (.aS f N a E H))=_;rw[h];rfl
theorem WU(h:dG P cfg (.aS f N a E H) (.done .ret E1 H1)):dG P cfg (.aS f N (.block id a) E H) (.done .ret E1 H1):=by
 obtain⟨hr,n,h⟩:=h;refine lj aw (n:=n) ?_;show oK id (dL P cfg n (.aS f N a E H))=_;rw[h];rfl
def WV{C:Nat}(Z:Nat.beq C id=false)(h:dG P cfg (.aS f N a E H) (.done (.exit C) E1 H1)):dG P cfg (.aS f N (.block id a) E H) (.done (.exit C) E1 H1):=by
 obtain⟨hr,n,h⟩:=h;refine lj aw (n:=n) ?_;show oK id (dL P cfg n (.aS f N a E H))=_;rw[h];simp only[oK,Z]
theorem dG.skip:dG P cfg (.aS f N .skip E H) (.done .normal E H):=lj aw (n:=0) rfl
theorem dG.exit:dG P cfg (.aS f N (.exit id) E H) (.done (.exit id) E H):=lj aw (n:=0) rfl
theorem dG.ret:dG P cfg (.aS f N .ret E H) (.done .ret E H):=lj aw (n:=0) rfl
def dG.region{ops:qQ}(h:kL P cfg (dL P cfg n) f N ops.toList ops.toList E H=r)(hr:r≠.aY):dG P cfg (.aS f N (.region id ops false) E H) r:=lj hr (n:=n) h
def dG.bK{ops:qQ}(h:jW P cfg (dL P cfg n) f N E H (cfg.ca f id) ops.toList=r)(hr:r≠.aY):dG P cfg (.aS f N (.region id ops true) E H) r:=lj hr (n:=n) h
def dG.call(z:cfg.call f V=none)(I:cfg.aG f=false)(C:cfg.aB f=false)(j:P.funcs[f]?=some Z)(hb:Z.body=some c)
 (h:dG P cfg (.aS f (max Z.ntmps V.length) c (bm 0 V (wr (max Z.ntmps V.length))) H) (.done ex E1 H1)) (U:ex=.normal\/ex=.ret) (Y:xP P Z.results.toList E1 H1=.val v H1):dG P cfg (.call f V H) (.val v H1):=by
 obtain⟨_,n,h⟩:=h;refine lj aw (n:=n) ?_;simp only[Ab.step,z,I,C,pN,xQ];unfold pL
 grind
end
end
structure SOp where
 d:qK
 op:Op
 g:Option (Nat×Bool)
inductive SC where
 |skip|ret|bad
 |fM (l:List SOp)
 |bK (id:Nat) (l:qB)
 |seq (a b:SC)
 |cond (x:Operand) (a b:SC)
 |block (id:Nat) (a:SC)
 |loop (a:SC)
 |exit (id:Nat)
variable{ops:qB}{d:qK}{l:List SOp}{g:FuncId}
def bM(N:Nat):Option Tmp->Option qK
 |none=>some none
 |some d=>match Nat.blt d N with
  |true=>some (some d)
  |false=>none
def bJ(m:qB):Option (Nat×Bool)->Option (Option (Nat×Bool))
 |none=>some none
 |some (j,b)=>match (m[j]?).bind (·.dst)with
  |some d=>some (some (d,b))
  |none=>none
def bw(N:Nat)(m:qB):qB->Option (List SOp)
 |[]=>some []
 |o::l=>match bM N o.dst,bJ m o.guard,bw N m l with
  |some d,some g,some r=>some (⟨d,o.op,g⟩::r)
  |_,_,_=>none
def bH(l:Option (List SOp)):SC:=match l with
 |some l=>.fM l
 |none=>.bad
def aE(N:Nat):Code->SC
 | .skip=>.skip
 | .region id ops draw=>match draw with
   |false=>bH (bw N ops.toList ops.toList)
   |true=>.bK id ops.toList
 | .seq a b=>.seq (aE N a) (aE N b)
 | .cond x a b=>.cond x (aE N a) (aE N b)
 | .block id a=>.block id (aE N a)
 | .loop a=>.loop (aE N a)
 | .exit id=>.exit id
 | .ret=>.ret
 |_=>.bad
section
variable (P:Program) (cfg:Cfg) (f N:Nat)
def aR(g:FuncId)(V:qu)(H:Hp)(Q:AV->Hp->Prop):Prop:=∃v H',dG P cfg (.call g V H) (.val v H')/\Q v H'
def jm(op:Op)(E:aq)(H:Hp)(K:AV->Hp->Prop):Prop:=∃n v H',eF P cfg (dL P cfg n) f E H op=.val v H'/\K v H'
noncomputable def aC(E:aq):qK->AV->aq
 |some d,v=>T.set E d (some v)
 |none,_=>E
def aI:List SOp->aq->Hp->(aq->Hp->Prop)->Prop
 |[],E,H,Q=>Q E H
 |o::l,E,H,Q=>match o.g with
  |none=>jm P cfg f o.op E H fun v H'=>aI l (aC E o.d v) H' Q
  |some (s,b)=>(E.at s=.bool b/\jm P cfg f o.op E H fun v H'=>aI l (aC E o.d v) H' Q)\/((E.at s=.bool (!b)\/E.at s=dH)/\aI l (aC E o.d dH) H Q)
def bS(c:SC)(E:aq)(H:Hp)(Q:AX->aq->Hp->Prop):Prop:=∀code,aE N code=c->∃x E' H',dG P cfg (.aS f N code E H) (.done x E' H')/\Q x E' H'
end
section
variable {P:Program} {cfg:Cfg} {f N:Nat}
def jm.mono{op:Op}{E:aq}{H:Hp}{M:AV->Hp->Prop}(h:∀v H',K v H'->M v H')(z:jm P cfg f op E H K):jm P cfg f op E H M:=by
 obtain⟨n,v,H',m,j⟩:=z;exact⟨n,v,H',m,h v H' j⟩
def bS.mono{c:SC}{E:aq}{H:Hp}{Y:AX->aq->Hp->Prop}(h:∀x E H,Q x E H->Y x E H)(M:bS P cfg f N c E H Q):bS P cfg f N c E H Y:=fun code hc=>by
 obtain⟨x,E',H',m,j⟩:=M code hc
 grind
def x7:=@bS.mono
def bS.skip{E:aq}{H:Hp}{Q:AX->aq->Hp->Prop}(h:Q .normal E H):bS P cfg f N .skip E H Q:=fun code hc=>by
 cases code with
 |skip=>exact⟨_,_,_,dG.skip,h⟩
 |region id ops draw=>cases draw<;>simp only[aE,bH,reduceCtorEq]at hc;grind
 |_=>simp[aE]at hc
def bS.ret{E:aq}{H:Hp}{Q:AX->aq->Hp->Prop}(h:Q .ret E H):bS P cfg f N .ret E H Q:=fun code hc=>by
 cases code with
 |ret=>exact⟨_,_,_,dG.ret,h⟩
 |region id ops draw=>cases draw<;>simp only[aE,bH,reduceCtorEq]at hc;grind
 |_=>simp[aE]at hc
def bS.exit{id:Nat}{E:aq}{H:Hp}{Q:AX->aq->Hp->Prop}(h:Q (.exit id) E H):bS P cfg f N (.exit id) E H Q:=fun code hc=>by
 cases code with
 |exit C=>simp only[aE,SC.exit.injEq]at hc;subst hc;exact⟨_,_,_,dG.exit,h⟩
 |region id ops draw=>cases draw<;>simp only[aE,bH,reduceCtorEq]at hc;grind
 |_=>simp[aE]at hc
def lP(Q:AX->aq->Hp->Prop)(K:aq->Hp->Prop):AX->aq->Hp->Prop
 | .normal,E,H=>K E H
 | .exit id,E,H=>Q (.exit id) E H
 | .ret,E,H=>Q .ret E H
def bS.seq{a b:SC}{E:aq}{H:Hp}{Q:AX->aq->Hp->Prop}(h:bS P cfg f N a E H (lP Q fun E H=>bS P cfg f N b E H Q)):bS P cfg f N (.seq a b) E H Q:=fun code hc=>by
 cases code with
 |seq p q=>
  simp only[aE,SC.seq.injEq]at hc;obtain⟨x,E1,H1,m,j⟩:=h p hc.1;cases x with
  |normal=>
   obtain⟨x,C,z,Z,V⟩:=j q hc.2;exact⟨x,C,z,dG.seq m Z,V⟩
  |exit id=>exact⟨_,_,_,Mj m aw,j⟩
  |ret=>exact⟨_,_,_,Mj m aw,j⟩
 |region id ops draw=>cases draw<;>simp only[aE,bH,reduceCtorEq]at hc;grind
 |_=>simp[aE]at hc
def cW:=@bS.seq
def bS.cond{x:Operand}{a b:SC}{E:aq}{H:Hp}{Q:AX->aq->Hp->Prop}{t:Bool}(C:aT E x=some (.bool t))(h1:t=true->bS P cfg f N a E H Q)(h2:t=false->bS P cfg f N b E H Q):
 bS P cfg f N (.cond x a b) E H Q:=fun code hc=>by
 cases code with
 |cond y p q=>
  simp only[aE,SC.cond.injEq]at hc;obtain⟨rfl,Z,V⟩:=hc;cases t with
  |true=>
   obtain⟨x,E1,H1,z,J⟩:=h1 rfl p Z;exact⟨x,E1,H1,WR C z,J⟩
  |false=>
   obtain⟨x,E1,H1,z,J⟩:=h2 rfl q V;exact⟨x,E1,H1,WS C z,J⟩
 |region id ops draw=>cases draw<;>simp only[aE,bH,reduceCtorEq]at hc;grind
 |_=>simp[aE]at hc
def pR(id:Nat)(Q:AX->aq->Hp->Prop):AX->aq->Hp->Prop
 | .normal,E,H=>Q .normal E H
 | .exit C,E,H=>if C=id then Q .normal E H else Q (.exit C) E H
 | .ret,E,H=>Q .ret E H
def bS.block{id:Nat}{a:SC}{E:aq}{H:Hp}{Q:AX->aq->Hp->Prop}(h:bS P cfg f N a E H (pR id Q)):bS P cfg f N (.block id a) E H Q:=fun code hc=>by
 cases code with
 |block C p=>
  simp only[aE,SC.block.injEq]at hc;obtain⟨rfl,Z⟩:=hc;obtain⟨x,E1,H1,z,J⟩:=h p Z;cases x with
  |normal=>exact⟨_,_,_,WT z,J⟩
  |ret=>exact⟨_,_,_,WU z,J⟩
  |exit k=>
   simp only[pR]at J;split at J
   .rename_i e;subst e;exact⟨_,_,_,dG.block z,J⟩
   .rename_i e;exact⟨_,_,_,WV (by cases hb:Nat.beq k C with|true=>simp_all|false=>rfl) z,J⟩
 |region id ops draw=>cases draw<;>simp only[aE,bH,reduceCtorEq]at hc;grind
 |_=>simp[aE]at hc
def dX:=@bS.block
def bS.loop{a:SC}{Q:AX->aq->Hp->Prop}(I:Nat->aq->Hp->Prop)(h:∀n E H,I n E H->bS P cfg f N a E H (lP Q fun E H=>∃m,m<n/\I m E H)){n:Nat}{E:aq}{H:Hp}(Z:I n E H):bS P cfg f N (.loop a) E H Q:=by
 induction n using Nat.strongRecOn generalizing E H with
 |_ n ih=>
  intro code hc;cases code with
  |loop p=>
   simp only[aE,SC.loop.injEq]at hc;obtain⟨x,E1,H1,z,J⟩:=h n E H Z p hc;cases x with
   |normal=>
    obtain⟨m,Y,j⟩:=J;obtain⟨x,C,V,U,O⟩:=ih m Y j (.loop p) (by simp[aE,hc]);exact⟨x,C,V,dG.loop z U,O⟩
   |exit id=>exact⟨_,_,_,Mk z aw,J⟩
   |ret=>exact⟨_,_,_,Mk z aw,J⟩
  |region id ops draw=>cases draw<;>simp only[aE,bH,reduceCtorEq]at hc;grind
  |_=>simp[aE]at hc
def Aq:=@bS.loop
def rK{a:SC}(I:Nat->aq->Hp->Prop)(M:Nat)(h:∀i E H,i<=M->I i E H->bS P cfg f N a E H (lP Q fun E H=>i<M/\I (i+1) E H)){E:aq}{H:Hp}(m:I 0 E H):bS P cfg f N (.loop a) E H Q:=
 Aq (fun n E H=>n<=M/\I (M-n) E H) (fun n E H j=>x7 (fun x E' H' U=>by
  cases x with
  |normal=>
   obtain⟨Z,Y⟩:=U;have:=j.1;refine⟨n-1,ac,ac,?_⟩
   grind
  |exit id=>exact U
  |ret=>exact U) (h (M-n) E H (Nat.sub_le _ _) j.2)) (n:=M) ⟨ay _,bb⟩
def Dk{N:Nat}{U:Option Tmp}(h:bM N U=some d)(E:aq)(v:AV):fN N E U v=some (aC E d v):=by
 cases U with
 |none=>simp only[bM,aQ]at h;subst h;rfl
 |some t=>
  simp only[bM]at h;split at h
  .rename_i hb;simp only[aQ]at h;subst h;simp only[fN,hb,aC]
  .simp at h
def Ml{m:qB}{E:aq}{g:Option (Nat×Bool)}(h:bJ m o.guard=some g):
 (g=none->jT m E o=true)/\∀s b,g=some (s,b)->(E.at s=.bool b->jT m E o=true)/\(E.at s=.bool (!b)\/E.at s=dH->jT m E o=false):=by
 unfold jT;cases hg:o.guard with
 |none=>
  rw[hg]at h;simp only[bJ,aQ]at h
  grind
 |some z=>
  obtain⟨j,b⟩:=z;rw[hg]at h;simp only[bJ]at h;split at h
  .rename_i d hd;simp only[aQ]at h;subst h;refine⟨fun e=>by simp at e,fun s b' e=>?_⟩;simp only[dB]at e;obtain⟨rfl,rfl⟩:=e;simp only[CC,hd];refine⟨fun e=>by rw[e];simp,fun e=>by rcases e with e|e<;>rw[e]<;>simp[dH]⟩
  .simp at h
theorem aI.run{Z:qB}{Q:aq->Hp->Prop}:∀{l:qB}{r:List SOp}{E:aq}{H:Hp},bw N Z l=some r->aI P cfg f r E H Q ->
 ∃n E' H',kL P cfg (dL P cfg n) f N Z l E H=.done .normal E' H'/\Q E' H'
 |[],r,E,H,hs,U=>by
  simp only[bw,aQ]at hs;subst hs;exact⟨0,E,H,rfl,U⟩
 |o::l,r,E,H,hs,U=>by
  simp only[bw]at hs;split at hs
  .rename_i d g r' M h2 J;simp only[aQ]at hs;subst hs;obtain⟨cm,w2⟩:=Ml (E:=E) h2;have hop:∀{K:Prop},jm P cfg f o.op E H (fun v H'=>aI P cfg f r' (aC E d v) H' Q)->jT Z E o=true->∃n E' H',kL P cfg (dL P cfg n) f N Z (o::l) E H=.done .normal E' H'/\Q E' H':=fun{K} hw Y=>by
    obtain⟨n,v,H1,I,g2⟩:=hw;obtain⟨m,C,z,O,j⟩:=aI.run J g2;refine⟨max n m,C,z,?_,j⟩;have V:∀k k',k<=k'->ea (dL P cfg k) (dL P cfg k'):=fun k k' hk t ht=>Ap hk ht;rw[Ao,Y];simp only[];rw[Df (V n (max n m) (Dc _ _)) Ak,I];simp only[Dk M,lc];rw[Dg (V m (max n m) (Dd _ _)) (by rw[O];simp),O]
   unfold aI at U;cases hg:g with
   |none=>
    simp_all
   |some sb=>
    obtain⟨s,b⟩:=sb;rw[hg]at U;simp only[]at U;rcases U with⟨e,U⟩|⟨e,U⟩
    .simp_all
    .obtain⟨m,C,z,O,j⟩:=aI.run J U;refine⟨m,C,z,?_,j⟩;rw[Ao,(w2 s b hg).2 e];simp only[Dk M,lc];exact O
  .simp at hs
def bS.fM{l:List SOp}{E:aq}{H:Hp}{Q:AX->aq->Hp->Prop}(h:aI P cfg f l E H (Q .normal)):bS P cfg f N (.fM l) E H Q:=fun code hc=>by
 cases code with
 |region id ops draw=>
  cases draw with
  |true=>simp[aE]at hc
  |false=>
   simp only[aE,bH]at hc;split at hc
   .rename_i r hr;simp only[SC.fM.injEq]at hc;subst hc;obtain⟨n,E',H',m,j⟩:=aI.run hr h;exact⟨_,_,_,dG.region m aw,j⟩
   .simp at hc
 |_=>simp[aE]at hc
def am{E:aq}{H:Hp}(h:∀K:aq->Hp->Prop,(∀E' H',Q .normal E' H'->K E' H')->aI P cfg f l E H K):bS P cfg f N (.fM l) E H Q:=
 bS.fM (h _ fun _ _ h=>h)
def aI.nil{E:aq}{H:Hp}{Q:aq->Hp->Prop}(h:Q E H):aI P cfg f [] E H Q:=h
def x8:=@aI.nil
def jm.plain{op:Op}{E:aq}{H H':Hp}(h:dK P cfg.dI E H op=some (v,H'))(J:∀c,op≠.call c)(z:K v H'):jm P cfg f op E H K:=
 ⟨0,v,H',(wF J).2 h,z⟩
def Dm:Op->Bool
 | .call _=>false
 |_=>true
def Mm{op:Op}(h:Dm op=true):∀c,op≠.call c:=fun c e=>by subst e;simp[Dm]at h
def aI.op{d:Nat}{op:Op}{E:aq}{H H':Hp}{Q:aq->Hp->Prop}(J:Dm op=true)(h:dK P cfg.dI E H op=some (v,H'))(z:aI P cfg f l (T.set E d (some v)) H' Q):aI P cfg f (⟨some d,op,none⟩::l) E H Q:=
 jm.plain h (Mm J) z
def jw:=@aI.op
def Mn{op:Op}{E:aq}{H H':Hp}{Q:aq->Hp->Prop}(J:Dm op=true)(h:dK P cfg.dI E H op=some (v,H'))(z:aI P cfg f l E H' Q):aI P cfg f (⟨none,op,none⟩::l) E H Q:=
 jm.plain h (Mm J) z
def aI.guard{op:Op}{t:Bool}{E:aq}{H:Hp}{Q:aq->Hp->Prop}(h:E.at s=.bool t)(h1:t=b->aI P cfg f (⟨d,op,none⟩::l) E H Q)(h2:t=!b->aI P cfg f l (aC E d dH) H Q):
 aI P cfg f (⟨d,op,some (s,b)⟩::l) E H Q:=by
 unfold aI;by_cases e:t=b
 .exact .inl ⟨by rw[h,e],h1 e⟩
 .have:t=!b:=by cases t<;>cases b<;>simp_all
  simp_all
def aI.cO{op:Op}{E:aq}{H:Hp}{Q:aq->Hp->Prop}(h:some (E.at s)=some v)(Z:v=dH)(h2:aI P cfg f l (aC E d dH) H Q):
 aI P cfg f (⟨d,op,some (s,b)⟩::l) E H Q:=by
 subst Z;unfold aI;simp_all
def aI.call{c:Call}{g:Operand}{k:FuncId}{cap:qu}{E:aq}{H:Hp}{Q:aq->Hp->Prop}(M:c.callee=.value g)(hg:aT E g=some (.bJ k cap))(Z:jj E c.args.toList=some vs)
 (h:aR P cfg k (vs++cap) H fun v H'=>aI P cfg f l (aC E d v) H' Q):aI P cfg f (⟨d,.call c,none⟩::l) E H Q:=by
 obtain⟨v,H',⟨_,n,m⟩,j⟩:=h;refine⟨n,v,H',?_,j⟩;simp only[eF,uQ,M,hg,Z];exact m
def aJ:=@aI.call
def aI.builtin{c:Call}{b:Builtin}{E:aq}{H H':Hp}{Q:aq->Hp->Prop}(M:c.callee=.builtin b)(Z:jj E c.args.toList=some vs)
 (h:sB P (cfg.keep f) H b c.argTypes.toList vs=some (v,H')) (z:aI P cfg f l (aC E d v) H' Q):aI P cfg f (⟨d,.call c,none⟩::l) E H Q:=by
 refine⟨0,v,H',?_,z⟩;simp only[eF,uQ,M,Z,h]
def Dn:=@aI.builtin
def WW{r:AV}{H:Hp}{Q:AV->Hp->Prop}(h:cfg.call g V=some r)(U:Q r H):aR P cfg g V H Q:=
 ⟨r,H,lj aw (n:=0) (by simp only[step,h]),U⟩
def Mo{m:qu}{r:AV}{H H':Hp}{Q:AV->Hp->Prop}(Z:cfg.call g V=none)(I:cfg.aG g=true)(C:cfg.aB g=false)(O:iG (fT 100) V H=some (m,H'))(h:cfg.call g m=some r)(U:Q r H'):aR P cfg g V H Q:=
 ⟨r,H',lj aw (n:=0) (by simp only[step,Z,pN,I,C,xQ,zJ,O,h]),U⟩
def aR.mono{H:Hp}{Q Y:AV->Hp->Prop}(h:∀v H',Q v H'->Y v H')(M:aR P cfg g V H Q):aR P cfg g V H Y:=by
 obtain⟨v,H',m,j⟩:=M;exact⟨v,H',m,h _ _ j⟩
def aF:=@aR.mono
def aR.body{H:Hp}{Q:AV->Hp->Prop}(z:cfg.call g V=none)(I:cfg.aG g=false)(C:cfg.aB g=false)(j:P.funcs[g]?=some Z)(hb:Z.body=some c)
 (h:bS P cfg g (max Z.ntmps V.length) (aE (max Z.ntmps V.length) c) (bm 0 V (wr (max Z.ntmps V.length))) H (fun x E' H'=>(x=.normal\/x=.ret)/\∃vs,cF P E' H' Z.results.toList=some vs/\Q (aA vs) H')):aR P cfg g V H Q:=by
 obtain⟨x,E',H',m,hx,vs,Y,U⟩:=h c rfl;exact⟨aA vs,H',dG.call z I C j hb m hx (by unfold xP;rw[Y]),U⟩
def bp{H:Hp}{s:SC}{M:Nat}{rs:List ResultVar}{Q:AV->Hp->Prop}(z:cfg.call g V=none)(I:cfg.aG g=false)(C:cfg.aB g=false)(j:P.funcs[g]?=some Z)(hb:Z.body=some c)(Y:max Z.ntmps V.length=M)
 (U:aE M c=s) (hr:Z.results.toList=rs) (h:bS P cfg g M s (bm 0 V (wr M)) H (fun x E' H'=>(x=.normal\/x=.ret)/\∃vs,cF P E' H' rs=some vs/\Q (aA vs) H')):aR P cfg g V H Q:=by
 subst Y U hr;exact aR.body z I C j hb h
def Mp(fit:Fit P){ρ:Nat->Int}(Z:pO cfg.dI ρ)(M:∀f V r,cfg.call f V=some r->bX P ρ f V r){V:qu}{r:AV}
 (Y:uV k V=true) (h:aR P cfg g V bt fun v H'=>iceV H' m v=some r):bX P ρ g V r:=by
 obtain⟨v,H',⟨_,n,U⟩,j⟩:=h;exact Mf fit Z M (n:=n) (m:=m) Y (by unfold CD;simp_all)
section
variable {l:List SOp} {E:aq} {H H':Hp} {Q:aq -> Hp -> Prop} {d:Nat} {v a b:AV} {x y:Operand} {t u:TypeId}
def aI.move(h:aT E x=some v)(z:aI P cfg f l (T.set E d (some v)) H Q):aI P cfg f (⟨some d,.move x,none⟩::l) E H Q:=jw rfl (by simp only[dK,Go.Ab.ret,h]) z
def aI.assign(h:aT E x=some v)(z:aI P cfg f l (T.set E d (some v)) H Q):aI P cfg f (⟨some d,.assign x,none⟩::l) E H Q:=jw rfl (by simp only[dK,Go.Ab.ret,h]) z
def aI.pick{z:Operand}{t:Bool}(h:aT E x=some (.bool t))(h1:aT E y=some a)(h2:aT E z=some b)(Z:aI P cfg f l (T.set E d (some (kJ t a b))) H Q):aI P cfg f (⟨some d,.pick x y z,none⟩::l) E H Q:=
 jw rfl (by cases t<;>simp only[dK,Cn,Go.Ab.ret,h,h1,h2]<;>rfl) Z
def aI.load(h:aT E x=some a)(h1:gX P H t a=some v)(z:aI P cfg f l (T.set E d (some v)) H Q):aI P cfg f (⟨some d,.load t x,none⟩::l) E H Q:=jw rfl (by simp only[dK,zA,Go.Ab.ret,h,h1]) z
def aI.store(h:aT E x=some a)(h1:aT E y=some b)(h2:lW P H t a b=some H')(z:aI P cfg f l E H' Q):aI P cfg f (⟨none,.store t x y,none⟩::l) E H Q:=Mn rfl (by simp only[dK,Cp,h,h1,h2];rfl) z
def x9:=@aI.store
def aI.nilCheck{o:Nat}(h:aT E x=some (.ptr r o))(z:aI P cfg f l (T.set E d (some (.ptr r o))) H Q):aI P cfg f (⟨some d,.nilCheck x,none⟩::l) E H Q:=jw rfl (by simp only[dK,Cq,h]) z
def aI.dn{op:BinOp}(h:aT E x=some a)(h1:aT E y=some b)(h2:eD P cfg.dI op t a b=some v)(z:aI P cfg f l (T.set E d (some v)) H Q):aI P cfg f (⟨some d,.binOp op t x y u,none⟩::l) E H Q:=
 jw rfl (by simp only[dK,Cr,Go.Ab.ret,h,h1,h2]) z
def aI.un{op:UnOp}(h:aT E x=some a)(h2:uN op a=some v)(z:aI P cfg f l (T.set E d (some v)) H Q):aI P cfg f (⟨some d,.unOp op t x,none⟩::l) E H Q:=jw rfl (by simp only[dK,Ct,Go.Ab.ret,h,h2]) z
def aI.convert(h:aT E x=some a)(h2:kX P H t u a=some v)(z:aI P cfg f l (T.set E d (some v)) H Q):aI P cfg f (⟨some d,.convert t u x,none⟩::l) E H Q:=jw rfl (by simp only[dK,zB,Go.Ab.ret,h,h2]) z
def aI.fieldAddr(h:aT E x=some a)(h2:uK P t a i=some v)(z:aI P cfg f l (T.set E d (some v)) H Q):aI P cfg f (⟨some d,.fieldAddr t x i,none⟩::l) E H Q:=jw rfl (by simp only[dK,Cv,Go.Ab.ret,h,h2]) z
def Mq:=@aI.fieldAddr
def aI.field(h:aT E x=some a)(h2:wi P t a i=some v)(z:aI P cfg f l (T.set E d (some v)) H Q):aI P cfg f (⟨some d,.field t x i,none⟩::l) E H Q:=jw rfl (by simp only[dK,Cw,Go.Ab.ret,h,h2]) z
def aI.indexAddr(h:aT E x=some a)(h1:aT E y=some b)(h2:el P t a b=some v)(z:aI P cfg f l (T.set E d (some v)) H Q):aI P cfg f (⟨some d,.indexAddr t x y,none⟩::l) E H Q:=jw rfl (by simp only[dK,Cy,Go.Ab.ret,h,h1,h2]) z
def Mr:=@aI.indexAddr
def aI.index(h:aT E x=some a)(h1:aT E y=some b)(h2:rC P t a b=some v)(z:aI P cfg f l (T.set E d (some v)) H Q):aI P cfg f (⟨some d,.index t x y,none⟩::l) E H Q:=jw rfl (by simp only[dK,Cz,Go.Ab.ret,h,h1,h2]) z
def aI.extract(h:aT E x=some a)(h2:Ab.extract a i=some v)(z:aI P cfg f l (T.set E d (some v)) H Q):aI P cfg f (⟨some d,.extract x i,none⟩::l) E H Q:=jw rfl (by simp only[dK,CB,Go.Ab.ret,h,h2]) z
def aI.alloc(h:cQ P t=some z)(J:some H.next=some n)(Z:aI P cfg f l (T.set E d (some (.ptr n 0))) (H.alloc (.cells z 0 true)) Q):aI P cfg f (⟨some d,.alloc t,none⟩::l) E H Q:=by
 simp only[aQ]at J;subst J;exact jw rfl (by simp only[dK,zw,h]) Z
def aI.box(h:aT E x=some a)(M:some a.cells=some cs)(J:some H.next=some n)(z:aI P cfg f l (T.set E d (some (.ptr n 0))) (H.alloc (.cells cs 0 true)) Q):aI P cfg f (⟨some d,.box t x,none⟩::l) E H Q:=by
 simp only[aQ]at M J;subst M J;exact jw rfl (by simp only[dK,zx,h]) z
def aI.build{ps:qO}(h:lJ E M.toList=some ps)(h2:dd P t ps=some v)(z:aI P cfg f l (T.set E d (some v)) H Q):aI P cfg f (⟨some d,.build t M,none⟩::l) E H Q:=jw rfl (by simp only[dK,Co,Go.Ab.ret,h,h2]) z
def aI.buildSlice{ps:qO}(h:lJ E M.toList=some ps)(h2:de P H t n ps=some (v,H'))(z:aI P cfg f l (T.set E d (some v)) H' Q):aI P cfg f (⟨some d,.buildSlice t n M,none⟩::l) E H Q:=
 jw rfl (by simp only[dK,zy,h,h2]) z
def Ms:=@aI.buildSlice
def aI.makeMap(J:some H.next=some n)(z:aI P cfg f l (T.set E d (some (.map n))) (H.alloc (.map [])) Q):aI P cfg f (⟨some d,.makeMap t none,none⟩::l) E H Q:=by
 simp only[aQ]at J;subst J;exact jw rfl (by simp only[dK,zC]) z
def aI.lookup{ok:Bool}(h:aT E x=some a)(h1:aT E y=some b)(h2:jS P H t a b ok=some v)(z:aI P cfg f l (T.set E d (some v)) H Q):aI P cfg f (⟨some d,.lookup t x y ok,none⟩::l) E H Q:=jw rfl (by simp only[dK,zF,Go.Ab.ret,h,h1,h2]) z
def aI.mapUpdate{z:Operand}{c:AV}(h:aT E x=some a)(h1:aT E y=some b)(h2:aT E z=some c)(C:oJ P H t a b c=some H')(Z:aI P cfg f l E H' Q):aI P cfg f (⟨none,.mapUpdate t x y z,none⟩::l) E H Q:=
 Mn rfl (by simp only[dK,CA,h,h1,h2,C];rfl) Z
def Mt:=@aI.mapUpdate
def aI.makeFunc{cap:Array Operand}(h:jj E cap.toList=some vs)(z:aI P cfg f l (T.set E d (some (.bJ g vs))) H Q):aI P cfg f (⟨some d,.makeFunc (.func g) #[] cap,none⟩::l) E H Q:=jw rfl (by simp only[dK,Cu,h]) z
def aI.slice{M Z:qE}(h:aT E x=some a)(h1:kY E lo=some M)(h2:kY E I=some Z)(C:pF P H t a M Z=some v)(z:aI P cfg f l (T.set E d (some v)) H Q):aI P cfg f (⟨some d,.slice t x lo I none,none⟩::l) E H Q:=
 jw rfl (by simp only[dK,zE,Go.Ab.ret,h,h1,h2,C]) z
def aI.makeSlice(h:aT E x=some a)(h1:aT E y=some b)(h2:pI P H t a b=some (v,H'))(z:aI P cfg f l (T.set E d (some v)) H' Q):aI P cfg f (⟨some d,.makeSlice t x y,none⟩::l) E H Q:=jw rfl (by simp only[dK,zD,h,h1,h2]) z
def Mu:=@aI.makeSlice
def aI.len{c:AV}(h:aT E x=some a)(h1:gO P H t a=some c)(z:aI P cfg f l (T.set E d (some c)) H Q):aI P cfg f (⟨some d,.call ⟨.builtin .len,#[x],#[t]⟩,none⟩::l) E H Q:=
 Dn (c:=⟨.builtin .len,#[x],#[t]⟩) rfl (vs:=[a]) (by simp only[jj,h]) (by simp only[sB,h1]) z
def aI.append(h:aT E x=some a)(h1:aT E y=some b)(h2:cD P (cfg.keep f) H t u a b=some (v,H'))(z:aI P cfg f l (T.set E d (some v)) H' Q):aI P cfg f (⟨some d,.call ⟨.builtin .append,#[x,y],#[t,u]⟩,none⟩::l) E H Q:=
 Dn (c:=⟨.builtin .append,#[x,y],#[t,u]⟩) rfl (vs:=[a,b]) HJ (by simp only[sB,h2]) z
def kO:=@aI.append
end
def jY(E:aq)(d t:Nat)(v:AV):aq.at (T.set E d (some v)) t=bif t == d then v else E.at t:=by
 rw[xU];simp_all
def get_set(H:Hp)(d t:Nat)(b:HB):(H.set d b).get t=bif t == d then some b else H.get t:=by
 rw[aM];simp_all
theorem WX(E:aq)(t:Nat):aT E (.tmp t)=some (E.at t):=rfl
theorem WY(E:aq)(k:IntKind)(n:Int):aT E (.const (.int k n))=some (.int k n):=rfl
theorem WZ(E:aq)(b:Bool):aT E (.const (.bool b))=some (.bool b):=rfl
theorem W0(E:aq)(g:FuncId):aT E (.func g)=some (.bJ g []):=rfl
theorem W1(E:aq)(s:ByteArray):aT E (.const (.string s))=some (.aj s.data.toList):=rfl
section
variable {D:BinOp -> Sx -> Sx -> qJ} {t:TypeId} {k:IntKind} {a b:Int} {s u:qA}
def Xa:eD P D .add t (.int k a) (.int k b)=some (.int k (k.wrap (a+b))):=sK
def Xb:eD P D .sub t (.int k a) (.int k b)=some (.int k (k.wrap (a-b))):=sK
def Xc:eD P D .mul t (.int k a) (.int k b)=some (.int k (k.wrap (a*b))):=sK
def u7(h:b≠0):eD P D .quo t (.int k a) (.int k b)=some (.int k (k.wrap (a.tdiv b))):=by simp[eD,uM,kK,h]
def ya(h:b≠0):eD P D .rem t (.int k a) (.int k b)=some (.int k (a.tmod b)):=by simp[eD,uM,kK,h]
def Xd:eD P D .and t (.int k a) (.int k b)=some (.int k (k.wrap (BitVec.ofInt k.bits a &&& BitVec.ofInt k.bits b).toNat)):=sK
def Xe:eD P D .or t (.int k a) (.int k b)=some (.int k (k.wrap (BitVec.ofInt k.bits a |||BitVec.ofInt k.bits b).toNat)):=sK
def Xf:eD P D .xor t (.int k a) (.int k b)=some (.int k (k.wrap (BitVec.ofInt k.bits a^^^ BitVec.ofInt k.bits b).toNat)):=sK
theorem Xg:eD P D .eql t (.int k a) (.int k b)=some (.bool (decide (a=b))):=by simp[eD,uM,kK];rfl
theorem Xh:eD P D .neq t (.int k a) (.int k b)=some (.bool (!decide (a=b))):=by simp[eD,uM,kK];rfl
def Xi:eD P D .lss t (.int k a) (.int k b)=some (.bool (decide (a<b))):=sK
def Xj:eD P D .leq t (.int k a) (.int k b)=some (.bool (decide (a<=b))):=sK
def Xk:eD P D .gtr t (.int k a) (.int k b)=some (.bool (decide (b<a))):=sK
def Xl:eD P D .geq t (.int k a) (.int k b)=some (.bool (decide (b<=a))):=sK
def Xm:eD P D .eql t (.aj s) (.aj u)=some (.bool (decide (s=u))):=by
 simp only[eD,xL]
 grind
def Xn:eD P D .neq t (.aj s) (.aj u)=some (.bool (!decide (s=u))):=by
 simp only[eD,xL]
 grind
def Mv(h:s.length+u.length<=ee):eD P D .add t (.aj s) (.aj u)=some (.aj (s++u)):=by simp[eD,xL,h]
theorem Xo{x:Bool}:uN .not (.bool x)=some (.bool !x):=rfl
theorem Xp:uN .neg (.int k a)=some (.int k (k.wrap (0-a))):=rfl
end
theorem gS(h:i<2^62):IntKind.wrap .i64 ((i:Int)+1)=((i+1:Nat):Int):=by
 rw[zZ _ ac];rfl
def Mw{H:Hp}(h:P.underlying t=some (.slice e))(xs:List qu):gO P H t (.az xs)=some (.int .i64 xs.length):=Db
def As{H:Hp}(h:P.underlying t=some (.slice e))(r o n z:Nat):gO P H t (.sl r o n z)=some (.int .i64 n):=Db
def Do{H:Hp}(h:P.underlying t=some (.slice e)):gO P H t .ag=some (.int .i64 0):=Db
def Xq{H:Hp}(h:P.underlying t=some .string)(s:qA):gO P H t (.aj s)=some (.int .i64 s.length):=Db
def wI(h:P.underlying t=some (.slice e))(U:bL P e=some s){o z:Nat}(I:i<n):el P t (.sl r o n z) (.int .i64 (i:Int))=some (.ptr r (o+i*s)):=by
 show el P t (.sl r o n z) (.int .i64 (Int.ofNat i))=_;simp only[el,h,U,I,ft]
def At:TypeDesc->Bool
 | .struct _|.array _ _=>false
 |_=>true
def iI{d:TypeDesc}(h:P.underlying t=some d)(hd:At d=true)(cs:qu)(o:Nat):dc P t cs o=cs[o]?:=by
 unfold dc;rw[h];cases d<;>simp_all[At]
def Au{H:Hp}{d:TypeDesc}(h:P.underlying t=some d)(hd:At d=true){o:Nat}{imm:Nat}{tip:Bool}(hg:H.get r=some (.cells cs imm tip)):gX P H t (.ptr r o)=cs[o]?:=by
 simp only[gX,hg,iI h hd]
def Dp(z:Nat):Option qu->qE
 |some I=>if I.length=z then some (.bI I)else none
 |none=>none
theorem Xr(z:Nat)(row:qu):Dp z (some row)=if row.length=z then some (.bI row)else none:=rfl
def Dq:Option UInt8->qE
 |some b=>some (.int .u8 b.toNat)
 |none=>none
theorem Xs(b:UInt8):Dq (some b)=some (.int .u8 b.toNat):=rfl
def cq(s:Nat)(cs:qu):qE:=if (cs.take s).length=s then some (.agg (cs.take s))else none
def mr{d:TypeDesc}(h:P.underlying t=some d)(hd:At d=false)(U:bL P t=some s)(cs:qu)(o:Nat):dc P t cs o=cq s (cs.drop o):=by
 unfold dc cq;rw[h];cases d<;>simp_all[At]
theorem Xt(h:P.underlying t=some (.slice e))(U:bL P e=some s)(xs:List qu){n:Int}(J:0<=n)(k:IntKind):el P t (.az xs) (.int k n)=Dp s (xs[n.toNat]?):=by
 obtain⟨m,rfl⟩:=wG J;show el P t (.az xs) (.int k (Int.ofNat m))=Dp s (xs[m]?);simp only[el,h,U];cases xs[m]? <;>rfl
def nW(h:P.underlying t=some (.slice e))(U:bL P e=some s)(r o l z:Nat){n:Int}(J:0<=n)(k:IntKind):el P t (.sl r o l z) (.int k n)=bif decide (n.toNat<l)then some (.ptr r (o+n.toNat*s))else none:=by
 obtain⟨m,rfl⟩:=wG J;show el P t (.sl r o l z) (.int k (Int.ofNat m))=bif decide (m<l)then some (.ptr r (o+m*s))else none
 simp only[el,h,U];simp_all
theorem Xu(h:P.underlying t=some .string)(s:qA){n:Int}(J:0<=n)(k:IntKind):rC P t (.aj s) (.int k n)=Dq (s[n.toNat]?):=by
 obtain⟨m,rfl⟩:=wG J;show rC P t (.aj s) (.int k (Int.ofNat m))=Dq (s[m]?);simp only[rC,h];cases s[m]? <;>rfl
def Mx(P:Program)(t:TypeId)(o:Nat):Option HB->qE
 |some (.cells I _ _)=>dc P t I o
 |_=>none
theorem Xv(t:TypeId)(o:Nat)(cs:qu)(imm:Nat)(tip:Bool):Mx P t o (some (.cells cs imm tip))=dc P t cs o:=rfl
theorem Av(H:Hp)(t:TypeId)(r o:Nat):gX P H t (.ptr r o)=Mx P t o (H.get r):=rfl
theorem Xw(H:Hp)(t:TypeId)(cs:qu):gX P H t (.bI cs)=dc P t cs 0:=rfl
def wJ(H:Hp)(b:HB)(t:Nat):(H.alloc b).get t=bif t == H.next then some b else H.get t:=by
 rw[aD];simp_all
noncomputable def My(H:Hp)(r o:Nat)(Y:qu):qK->Option HB->Option Hp
 |some s,some (.cells I z C)=>if Y.length=s/\z<=o/\o+s<=I.length/\Y.all AV.one=true then some (H.set r (.cells (splice I o Y) z C))else none
 |_,_=>none
theorem HN(H:Hp)(r o:Nat)(Y:qu)(s:Nat)(cs:qu)(imm:Nat)(tip:Bool):My H r o Y (some s) (some (.cells cs imm tip))=if Y.length=s/\imm<=o/\o+s<=cs.length/\Y.all AV.one=true then some (H.set r (.cells (splice cs o Y) imm tip))else none:=rfl
theorem HO(H:Hp)(t:TypeId)(r o:Nat)(v:AV):lW P H t (.ptr r o) v=My H r o v.cells (bL P t) (H.get r):=by
 unfold lW;simp only[];cases m:H.get r with
 |none=>cases bL P t<;>rfl
 |some b=>cases b with
  |map I=>cases bL P t<;>rfl
  |cells Z z C=>cases bL P t with
   |none=>rfl
   |some s=>rfl
theorem HP(cs:qu)(o:Nat)(O:qu):splice cs o O=cs.take o++O++cs.drop (o+O.length):=rfl
theorem Xx(cs:qu):AV.cells (.agg cs)=cs:=rfl
theorem cells_int(k:IntKind)(n:Int):AV.cells (.int k n)=[.int k n]:=rfl
theorem Mz(b:Bool):AV.cells (.bool b)=[.bool b]:=rfl
theorem Xy(b:qA):AV.cells (.aj b)=[.aj b]:=rfl
theorem Xz(b:List qu):AV.cells (.az b)=[.az b]:=rfl
theorem XA(r o l z:Nat):AV.cells (.sl r o l z)=[.sl r o l z]:=rfl
theorem XB:AV.cells .ag=[.ag]:=rfl
theorem XC(r o:Nat):AV.cells (.ptr r o)=[.ptr r o]:=rfl
theorem XD(r:Nat):AV.cells (.map r)=[.map r]:=rfl
theorem XE(g:Nat)(cap:qu):AV.cells (.bJ g cap)=[.bJ g cap]:=rfl
theorem XF(k:IntKind)(n:Int):AV.one (.int k n)=true:=rfl
theorem XG(b:Bool):AV.one (.bool b)=true:=rfl
theorem XH(b:qA):AV.one (.aj b)=true:=rfl
theorem XI(b:List qu):AV.one (.az b)=true:=rfl
theorem MA(r o l z:Nat):AV.one (.sl r o l z)=true:=rfl
theorem XJ:AV.one .ag=true:=rfl
theorem XK(r o:Nat):AV.one (.ptr r o)=true:=rfl
theorem XL(r:Nat):AV.one (.map r)=true:=rfl
theorem XM(g:Nat)(cap:qu):AV.one (.bJ g cap)=true:=rfl
theorem ce:bt.next=0:=rfl
theorem XN(H:Hp)(t:TypeId)(s:qA)(lo I:qE):pF P H t (.aj s) lo I=kW P t (.aj s) lo I:=rfl
theorem XO(H:Hp)(t:TypeId)(s:List qu)(lo I:qE):pF P H t (.az s) lo I=kW P t (.az s) lo I:=rfl
theorem XP(H:Hp)(t:TypeId)(r o n z:Nat)(lo I:qE):pF P H t (.sl r o n z) lo I=kW P t (.sl r o n z) lo I:=rfl
theorem XQ(H:Hp)(t:TypeId)(lo I:qE):pF P H t .ag lo I=kW P t .ag lo I:=rfl
def HQ(n k:Nat):(n == n+(k+1))=false:=aw
def HR(n k:Nat):(n+(k+1) == n)=false:=aw
def MB(n a b:Nat):(n+a == n+b)=(a == b):=by
 grind
end
attribute [irreducible] aI bS aR jm
theorem Sx.beq_refl:∀a:Sx,Sx.beq a a=true
 | .var i=>by simp[Sx.beq]
 | .lit n=>by simp[Sx.beq]
 | .dn o k a b=>by simp[Sx.beq,Sx.beq_refl a,Sx.beq_refl b]
 | .eO k a=>by simp[Sx.beq,Sx.beq_refl a]
mutual
theorem AV.beq_refl:∀a:AV,AV.beq a a=true
 | .int k n=>by simp[AV.beq]
 | .sx k e=>by simp[AV.beq,Sx.beq_refl]
 | .bool b=>by simp[AV.beq]
 | .aj s=>by simp[AV.beq]
 | .b0=>rfl
 | .bD=>rfl
 | .ch=>rfl
 | .ag=>rfl
 | .ptr r o=>by simp[AV.beq]
 | .bI I=>by simp only[AV.beq];exact tQ I
 | .sl r o l z=>by simp[AV.beq]
 | .az Z=>by simp only[AV.beq];exact MC Z
 | .map r=>by simp[AV.beq]
 | .bJ f I=>by simp only[AV.beq,tQ I,hT];simp
 | .agg I=>by simp only[AV.beq];exact tQ I
 | .a6 I=>by simp only[AV.beq];exact tQ I
theorem tQ:∀a:qu,lX a a=true
 |[]=>rfl
 |a::l=>by simp only[lX,AV.beq_refl a,tQ l,hT]
theorem MC:∀a:List qu,wn a a=true
 |[]=>rfl
 |a::l=>by simp only[wn,tQ a,MC l,hT]
end
def wK(o:Oper):Bool:=tO o.op||sJ o.op
def Dr(o:Oper):Bool:=wK o||(match o.op with|.store ..|.mapUpdate ..=>true |_=>false)
def Ds(ops:qB):Bool:=
 nO ops&&(List.range ops.length).all (fun i=>match ops[i]? with|some o=>if Nat.blt (i+1) ops.length then wK o else Dr o|none=>true)&&(lY ops).all (fun p=>Nat.blt p.2 ops.length)
section
variable {P:Program} {cfg:Cfg} {f N:Nat}
theorem HS{ih:zd4->Res}{m:qB}:∀{l:qB}{E E':aq}{H H':Hp},kL P cfg ih f N m l E H=.done .normal E' H'->∃rs,jU P cfg ih f N m l E H=.done E' H' rs
 |[],E,E',H,H',h=>by
  simp only[kL,Res.done.injEq,kN]at h;obtain⟨rfl,rfl⟩:=h;exact⟨[],rfl⟩
 |o::l,E,E',H,H',h=>by
  rw[Ao]at h;simp only[jU];cases M:jT m E o with
  |true=>
   rw[M]at h;simp only[]at h⊢;cases Z:eF P cfg ih f E H o.op with
   |val v H1=>
    rw[Z]at h;simp only[]at h⊢;cases hp:fN N E o.dst v with
    |none=>rw[hp]at h;simp[lc]at h
    |some E1=>
     rw[hp]at h;simp only[lc]at h;obtain⟨rs,hr⟩:=HS h;exact⟨_,by simp only[pK,hr,pJ];rfl⟩
   |done _ _ _=>simp_all
   |aY=>simp_all
  |false=>
   rw[M]at h;simp only[]at h⊢;cases hp:fN N E o.dst dH with
   |none=>rw[hp]at h;simp[lc]at h
   |some E1=>
    rw[hp]at h;simp only[lc]at h;obtain⟨rs,hr⟩:=HS h;exact⟨_,by simp only[pK,hr,pJ];rfl⟩
def MD{E:aq}{H H':Hp}(z:wK o=true)(h:eF P cfg ih f E H o.op=.val v H'):H'=H:=by
 unfold wK at z;rw[sG]at z;rcases z with z|z
 .have J:∀c,o.op≠.call c:=fun c e=>by
   rw[e]at z;simp only[tO,iu]at z
   grind
  exact(Hl z ((wF J).1 h)).1
 .exact Hm z h
def XR{E:aq}{H H':Hp}(z:Dr o=true)(h:eF P cfg ih f E H o.op=.val v H'):H.next<=H'.next:=by
 unfold Dr at z;rw[sG]at z;rcases z with z|z
 .rw[MD z h];omega
 .obtain⟨Z,Y,J,M,O,guard⟩:=o;simp only[]at z h;cases Y<;>simp only[dM]at z
  case store t a x=>
   simp only[eF,dK,Cp]at h;split at h
   .split at h
    .rename_i U;simp only[iF,Res.val.injEq]at h;obtain⟨rfl,rfl⟩:=h;unfold lW at U;split at U
     .split at U
      .split at U
       .simp only[aQ]at U;rw[<-U];exact ay _
       .simp at U
      .simp at U
     .simp at U
    .simp[iF]at h
   .simp[iF]at h
  case mapUpdate t m k x=>
   simp only[eF,dK,CA]at h;split at h
   .split at h
    .rename_i U;simp only[iF,Res.val.injEq]at h;obtain⟨rfl,rfl⟩:=h;unfold oJ at U;split at U
     .split at U
      .split at U
       .split at U
        .simp only[aQ]at U;rw[<-U];exact ay _
        .simp only[aQ]at U;rw[<-U];exact ay _
        .simp at U
       .simp at U
      .simp at U
     .simp at U
    .simp[iF]at h
   .simp[iF]at h
theorem XS{ih':zd4->Res}{f':FuncId}{E:aq}{op:Op}{H:Hp}(z:sJ op=true):eF P cfg ih f E H op=eF P cfg ih' f' E H op:=by
 cases op<;>simp only[sJ,iu,dM]at z<;>try rfl
 rename_i c;simp only[eF,uQ];cases hc:c.callee with
 |value g=>simp_all
 |invoke g m=>rfl
 |builtin b=>
  rw[hc]at z;simp only[];cases b<;>simp only[dM]at z<;>rfl
theorem XT{E E':aq}{H H':Hp}(hp:Ds ops=true)(h:kL P cfg ih f N ops ops E H=.done .normal E' H'):jV P cfg ih f N ops E H=.done .normal E' H':=by
 unfold Ds at hp;simp only[da,jX,rI]at hp;obtain⟨⟨Z,V⟩,U⟩:=hp;obtain⟨rs,hr⟩:=HS h;have j:=Ae hr;have hlen:=Hh j;obtain⟨_,z2⟩:=Hk j;have Y:∀(i:Nat) o,ops[i]?=some o->i+1<ops.length->wK o=true:=fun i o M hi=>by
  have:=V i ac;simp_all
 have I:∀i,i+1<=ops.length->cE rs H' i=H:=fun i=>by
  induction i with
  |zero=>intro _;exact z2
  |succ i ih=>
   intro hi;have hri:=bj (show i<rs.length by omega);obtain⟨o,M,O⟩:=wE j hri;have h1:=ih ac;have h2:cE rs H' (i+1)=cE rs H' i:=by
    cases hd:(rs[i]' ac).did with
    |true=>exact MD (Y i o M ac) (O.f2 hd)
    |false=>exact(O.no hd).2
   rw[h2,h1]
 unfold jV;rw[Z];simp only[hr];have J:wo P cfg (lY ops) rs H'=true:=by
  unfold wo;simp only[da,jX];refine⟨fun r hm=>?_,fun p hpm=>?_⟩
  .obtain⟨i,hi⟩:=Hg.1 hm;obtain⟨o,M,O⟩:=wE j hi;have C:i<ops.length:=(gZ.1 M).1;rw[O.eH,O.eH'];refine Nat.ble_eq_true_of_le ?_;cases hd:r.did with
   |false=>rw[(O.no hd).2];omega
   |true=>
    by_cases hl:i+1<ops.length
    .grind
    .have:=V i C;rw[M]at this;have hb:Nat.blt (i+1) ops.length=false:=by
      cases hx:Nat.blt (i+1) ops.length with
      |false=>rfl
      |true=>exact(hl bb).elim
     simp only[hb,dM,fG]at this;exact XR this (O.f2 hd)
  .have hm:p.2<ops.length:=by simpa [sI]using U p hpm
   cases hrp:rs[p.1]? with
   |none=>rfl
   |some r=>
    obtain⟨o,M,O⟩:=wE j hrp;have C:p.1<ops.length:=(gZ.1 M).1;simp only[];cases hd:r.did with
    |false=>rfl
    |true=>
     simp only[wH,mp];have hH:r.H=cE rs H' p.2:=by rw[O.eH,I _ ac,I _ ac]
     unfold zee;cases z:iu r.o.op with
     |cW=>rfl
     |eu=>rfl
     |read=>
      simp only[];have m:=O.f2 hd;rw[<-O.eE,<-O.eo,<-O.eH,hH]at m;rw[XS (P:=P) (cfg:=cfg) (f:=f) (ih:=ih) (ih':=fun _=>.aY) (f':=0) (by simp[sJ,z])]at m;rw[m];simp only[AV.beq_refl]
     |make=>
      exfalso;rw[O.eo]at z;by_cases hl:p.1+1<ops.length
      .have:=Y _ o M hl;unfold wK tO sJ at this;simp_all
      .have h3:=V p.1 C;rw[M]at h3;have hb:Nat.blt (p.1+1) ops.length=false:=by
        cases hx:Nat.blt (p.1+1) ops.length with
        |false=>rfl
        |true=>exact(hl bb).elim
       simp only[hb,dM,fG,Dr,wK,tO,sJ,z,Bool.or_self,mp]at h3;split at h3
       .rename_i m;rw[m]at z;simp[iu]at z
       .rename_i m;rw[m]at z;simp[iu]at z
       .simp at h3
 rw[J]
def bS.bK{id:Nat}{ops:qB}{l:List SOp}{E:aq}{H:Hp}{Q:AX->aq->Hp->Prop}(C:cfg.ca f id=.text)(V:Ds ops=true)(U:bw N ops ops=some l)
 (h:∀K:aq->Hp->Prop,(∀E' H',Q .normal E' H'->K E' H')->aI P cfg f l E H K):bS P cfg f N (.bK id ops) E H Q:=by
 unfold bS;intro code hc;cases code with
 |region Z O draw=>
  cases draw with
  |false=>simp only[aE,bH]at hc;grind
  |true=>
   simp only[aE,SC.bK.injEq]at hc;obtain⟨rfl,rfl⟩:=hc;obtain⟨n,E',H',m,j⟩:=aI.run U (h (Q .normal) fun _ _ h=>h);refine⟨_,_,_,dG.bK (n:=n) (r:=.done .normal E' H') ?_ aw,j⟩;rw[C];simp only[jW];exact XT V m
 |_=>simp[aE]at hc
end
section
variable {P:Program} {H:Hp} {t u e:TypeId} {keep:Bool}
theorem XU{D:BinOp->Sx->Sx->qJ}{t:TypeId}{s u:qA}:eD P D .leq t (.aj s) (.aj u)=some (.bool (uL s u||s == u)):=rfl
def tR{o z:Nat}{imm:Nat}{tip:Bool}(hg:H.get r=some (.cells cs imm tip))(O:((cs.drop o).take (n*s)).length=n*s):fk H s (.sl r o n z)=some (n,(cs.drop o).take (n*s)):=by
 unfold fk;simp_all
def HT{k:IntKind}{s:qA}{m:Nat}(j:P.underlying t=some .string)(Y:m<=s.length):kW P t (.aj s) none (some (.int k (m:Int)))=some (.aj (s.take m)):=by
 show kW P t (.aj s) none (some (.int k (Int.ofNat m)))=_;simp[kW,j,iQ,Y]
def ME{k:IntKind}{s:qA}(j:P.underlying t=some .string)(Y:m<=s.length):kW P t (.aj s) (some (.int k (m:Int))) none=some (.aj (s.drop m)):=by
 show kW P t (.aj s) (some (.int k (Int.ofNat m))) none=_;simp only[kW,j,iQ];rw[ai ⟨Y,ay _⟩];rw[gQ aw]
def append_nil{b:Nat}{x:AV}(j:P.underlying t=some (.slice e))(Z:bL P e=some s)(hb:dF P e=some b)(C:cQ P e=some z)(Y:gN P u=true)
 (V:fk H s x=some (n+1,O)) (U:O.all AV.one=true) (m:z.length=s) (h1:(n+1)*b<=ee) (h2:n+1<=ee) :
 cD P keep H t u .ag x=some (.sl H.next 0 (n+1) s,H.alloc (.cells O 0 true)):=by
 simp only[cD,j,Z,hb,C,Y,V,U,m,nV,ft,gY,nL,h1,h2]
theorem XV{b len:Nat}{x:AV}(j:P.underlying t=some (.slice e))(Y:bL P e=some s)(hb:dF P e=some b)(C:cQ P e=some z)(V:gN P u=true)
 (M:fk H s x=some (n+1,O)) (U:O.all AV.one=true) (m:z.length=s) (hg:H.get r=some (.cells cs 0 true)) (J:cs.length=len*s) (h1:(len+(n+1))*b<=ee) (h2:len+(n+1)<=ee) :
 cD P false H t u (.sl r 0 len s) x=some (.sl H.next 0 (len+(n+1)) s,(H.a0 r).alloc (.cells (cs++O) 0 true)):=by
 have Z:gY false H s (.sl r 0 len s)=H:=by
  unfold gY;simp only[hg,bR];have:Nat.blt (len*s) cs.length=false:=by
   cases hb:Nat.blt (len*s) cs.length with
   |false=>rfl
   |true=>simp_all
  simp[this]
 simp only[cD,j,Y,hb,C,V,M,U,m,nV,ft,Z,nL,hg,h1,h2,bR,J,cZ,xY,hY,dM,fG]
end
theorem XW(E:aq):aT E (.const (.slice none 0 0))=some .ag:=rfl
theorem MF(E:aq):aT E (.const (.map none))=some .bD:=rfl
structure Rc where
 op:Op
 did:Bool
 E:aq
 H:Hp
 val:AV
 H':Hp
variable{H H':Hp}{E:aq}{J:List Rc}
section
variable (P:Program) (cfg:Cfg) (f:FuncId)
def dC:List SOp->List Rc->aq->Hp->(List Rc->aq->Hp->Prop)->Prop
 |[],tr,E,H,Q=>Q tr E H
 |o::l,tr,E,H,Q=>match o.g with
  |none=>jm P cfg f o.op E H fun v H'=>dC l (tr++[⟨o.op,true,E,H,v,H'⟩]) (aC E o.d v) H' Q
  |some (s,b)=>(E.at s=.bool b/\jm P cfg f o.op E H fun v H'=>dC l (tr++[⟨o.op,true,E,H,v,H'⟩]) (aC E o.d v) H' Q)\/((E.at s=.bool (!b)\/E.at s=dH)/\dC l (tr++[⟨o.op,false,E,H,dH,H⟩]) (aC E o.d dH) H Q)
def Aw(J:List Rc)(H':Hp)(m:Nat):Hp:=match J[m]? with
 |some r=>r.H
 |none=>H'
def sM(r:Rc)(H:Hp):Prop:=match iu r.op with
 | .read=>∃z,eF P cfg (fun _=>.aY) 0 r.E H r.op=.val r.val z
 | .make=>∃b,H.get r.H.next=some b/\r.H'.get r.H.next=some b
 |_=>True
def Dt(J:List Rc)(H':Hp)(i m:Nat):Prop:=match J[i]? with
 |some r=>r.did=true->sM P cfg r (Aw J H' m)
 |none=>True
def oS(need:qP)(J:List Rc)(H':Hp):Prop:=(∀r∈J,r.H.next<=r.H'.next)/\∀p∈need,Dt P cfg J H' p.1 p.2
end
section
variable {P:Program} {cfg:Cfg} {f N:Nat}
def wL(r:Rec):Rc:=⟨r.o.op,r.did,r.E,r.H,r.val,r.H'⟩
def HB.beq_refl(b:HB):HB.beq b b=true:=by
 cases b with
 |cells a i t=>simp[HB.beq,tQ]
 |map I=>simp[HB.beq,tQ]
theorem dC.run{Z:qB}{Q:List Rc->aq->Hp->Prop}:∀{l:qB}{r:List SOp}{J:List Rc}{E:aq}{H:Hp},bw N Z l=some r->dC P cfg f r J E H Q ->
 ∃n E' H' rs,jU P cfg (dL P cfg n) f N Z l E H=.done E' H' rs/\Q (J++rs.map wL) E' H'
 |[],r,J,E,H,hs,U=>by
  simp only[bw,aQ]at hs;subst hs;unfold dC at U;exact⟨0,E,H,[],rfl,Ac⟩
 |o::l,r,J,E,H,hs,U=>by
  simp only[bw]at hs;split at hs
  .rename_i d g r' I h2 h3;simp only[aQ]at hs;subst hs;obtain⟨cm,w2⟩:=Ml (E:=E) h2;have V:∀k k',k<=k'->ea (dL P cfg k) (dL P cfg k'):=fun k k' hk t ht=>Ap hk ht;have hop:jm P cfg f o.op E H (fun v H'=>dC P cfg f r' (J++[⟨o.op,true,E,H,v,H'⟩]) (aC E d v) H' Q)->jT Z E o=true->∃n E' H' rs,jU P cfg (dL P cfg n) f N Z (o::l) E H=.done E' H' rs/\Q (J++rs.map wL) E' H':=fun M Y=>by
    unfold jm at M;obtain⟨n,v,H1,g1,g2⟩:=M;obtain⟨m,C,z,rs,O,j⟩:=dC.run h3 g2;refine⟨max n m,C,z,⟨o,true,E,H,v,H1⟩::rs,?_,by simpa [wL]using j⟩;simp only[jU,Y];rw[Df (V n (max n m) (Dc _ _)) (by rw[g1];simp),g1];simp only[Dk I,pK];rw[Dh (V m (max n m) (Dd _ _)) (by rw[O];simp),O];rfl
   unfold dC at U;cases hg:g with
   |none=>
    simp_all
   |some sb=>
    obtain⟨s,b⟩:=sb;rw[hg]at U;simp only[]at U;rcases U with⟨e,U⟩|⟨e,U⟩
    .simp_all
    .obtain⟨m,C,z,rs,O,j⟩:=dC.run h3 U;refine⟨m,C,z,⟨o,false,E,H,dH,H⟩::rs,?_,by simpa [wL]using j⟩;simp only[jU,(w2 s b hg).2 e,Dk I,pK,O,pJ]
  .simp at hs
theorem HU{need:qP}{rs:List Rec}(h:oS P cfg need (rs.map wL) H'):wo P cfg need rs H'=true:=by
 unfold wo;simp only[da,jX];refine⟨fun r Y=>Nat.ble_eq_true_of_le (h.1 _ (mh.2 ⟨r,Y,rfl⟩)),fun p hp=>?_⟩;have U:=h.2 p hp;have I:Aw (rs.map wL) H' p.2=cE rs H' p.2:=by
  unfold Aw cE;rw[eI];cases rs[p.2]? <;>rfl
 unfold Dt at U;rw[eI,I]at U;cases hr:rs[p.1]? with
 |none=>rfl
 |some r=>
  rw[hr]at U;simp only[sD,wL]at U;simp only[sG,sF];cases hd:r.did with
  |false=>exact .inl rfl
  |true=>
   right
   have U:=U hd;unfold sM at U;unfold zee;cases z:iu r.o.op with
   |cW=>rfl
   |eu=>rfl
   |read=>
    rw[z]at U;simp only[]at U⊢;obtain⟨Z,j⟩:=U;rw[j];exact AV.beq_refl _
   |make=>
    rw[z]at U;simp only[]at U⊢;obtain⟨b,m,j⟩:=U;rw[m,j];exact HB.beq_refl b
def MG{id:Nat}{V:qB}{need:qP}
 (C:∀ih:zd4->Res,jW P cfg ih f N E H (cfg.ca f id) ops=jV P cfg ih f N V E H) (Z:nO V=true) (U:bw N V V=some l) (Y:lY V=need)
 (h:∀K:List Rc->aq->Hp->Prop,(∀J E' H',oS P cfg need J H'->Q .normal E' H'->K J E' H')->dC P cfg f l [] E H K):bS P cfg f N (.bK id ops) E H Q:=by
 unfold bS;intro code hc;cases code with
 |region z O draw=>
  cases draw with
  |false=>simp only[aE,bH]at hc;grind
  |true=>
   simp only[aE,SC.bK.injEq]at hc;obtain⟨rfl,rfl⟩:=hc;obtain⟨n,E',H',rs,m,j,I⟩:=dC.run U (h (fun J E' H'=>oS P cfg need J H'/\Q .normal E' H') fun _ _ _ h M=>⟨h,M⟩);refine⟨_,_,_,dG.bK (n:=n) (r:=.done .normal E' H') ?_ aw,I⟩;rw[C];unfold jV;rw[Z];simp only[m];rw[Y,HU (by simpa using j)]
 |_=>simp[aE]at hc
def XX{id:Nat}{need:qP}(C:cfg.ca f id=.text)(V:nO ops=true)(U:bw N ops ops=some l)(Z:lY ops=need)
 (h:∀K:List Rc->aq->Hp->Prop,(∀J E' H',oS P cfg need J H'->Q .normal E' H'->K J E' H')->dC P cfg f l [] E H K):bS P cfg f N (.bK id ops) E H Q:=
 MG (fun ih=>by rw[C];rfl) V U Z h
def MH{id:Nat}{ord:qG}{need:qP}(C:cfg.ca f id=.cn ord)(hb:wq ord ops=true)(V:nO (fo ord ops)=true)(U:bw N (fo ord ops) (fo ord ops)=some l)(Z:lY (fo ord ops)=need)
 (h:∀K:List Rc->aq->Hp->Prop,(∀J E' H',oS P cfg need J H'->Q .normal E' H'->K J E' H')->dC P cfg f l [] E H K):bS P cfg f N (.bK id ops) E H Q:=
 MG (fun ih=>by rw[C];simp only[jW,hb]) V U Z h
def dC.nil{Q:List Rc->aq->Hp->Prop}(h:Q J E H):dC P cfg f [] J E H Q:=h
def Ax:=@dC.nil
def dC.step{d:Nat}{op:Op}{Q:List Rc->aq->Hp->Prop}
 (h:aI P cfg f [⟨some d,op,none⟩] E H fun E' H'=>dC P cfg f l (J++[⟨op,true,E,H,E'.at d,H'⟩]) E' H' Q):dC P cfg f (⟨some d,op,none⟩::l) J E H Q:=by
 unfold aI at h;simp only[]at h;unfold dC;refine jm.mono (fun v H' U=>?_) h;unfold aI at U;have:(aC E (some d) v).at d=v:=Md;simp_all
def eP:=@dC.step
def jL{op:Op}{Q:List Rc->aq->Hp->Prop}(z:iu op=.eu)
 (h:aI P cfg f [⟨none,op,none⟩] E H fun E' H'=>∀v,dC P cfg f l (J++[⟨op,true,E,H,v,H'⟩]) E' H' Q):dC P cfg f (⟨none,op,none⟩::l) J E H Q:=by
 unfold aI at h;simp only[]at h;unfold dC;refine jm.mono (fun v H' U=>?_) h;unfold aI at U;exact U v
def dC.guard{op:Op}{t:Bool}{Q:List Rc->aq->Hp->Prop}(h:E.at s=.bool t)(h1:t=b->dC P cfg f (⟨d,op,none⟩::l) J E H Q)(h2:t=!b->dC P cfg f l (J++[⟨op,false,E,H,dH,H⟩]) (aC E d dH) H Q):
 dC P cfg f (⟨d,op,some (s,b)⟩::l) J E H Q:=by
 unfold dC;simp only[];by_cases e:t=b
 .left
  refine⟨by rw[h,e],?_⟩;have:=h1 e;unfold dC at this;exact this
 .right
  have M:t=!b:=by cases t<;>cases b<;>simp_all
  simp_all
def dC.cO{op:Op}{Q:List Rc->aq->Hp->Prop}(h:E.at s=dH)(h2:dC P cfg f l (J++[⟨op,false,E,H,dH,H⟩]) (aC E d dH) H Q):
 dC P cfg f (⟨d,op,some (s,b)⟩::l) J E H Q:=by
 unfold dC;simp_all
def XY{bt:Hp}(h:aT E x=some a)(h1:gX P H t a=some v):sM P cfg ⟨.load t x,true,E,bt,v,j⟩ H:=
 ⟨H,by simp only[eF,dK,zA,Go.Ab.ret,h,h1,iF]⟩
def XZ{y:Operand}{ok:Bool}{bt:Hp}{b:AV}(h:aT E x=some a)(h1:aT E y=some b)(h2:jS P H t a b ok=some v):sM P cfg ⟨.lookup t x y ok,true,E,bt,v,j⟩ H:=
 ⟨H,by simp only[eF,dK,zF,Go.Ab.ret,h,h1,h2,iF]⟩
def X2{bt:Hp}(h:aT E x=some a)(h1:gO P H t a=some v):sM P cfg ⟨.call ⟨.builtin .len,#[x],#[t]⟩,true,E,bt,v,j⟩ H:=
 ⟨H,by simp only[eF,uQ,jj,h,sB,h1]⟩
def X3{s:TypeId}{bt:Hp}(h:aT E x=some a)(h1:kX P H s t a=some v):sM P cfg ⟨.convert s t x,true,E,bt,v,j⟩ H:=
 ⟨H,by simp only[eF,dK,zB,Go.Ab.ret,h,h1,iF]⟩
def X4{M Z:qE}{bt:Hp}(h:aT E x=some a)(h1:kY E lo=some M)(h2:kY E I=some Z)(C:pF P H t a M Z=some v):sM P cfg ⟨.slice t x lo I none,true,E,bt,v,j⟩ H:=
 ⟨H,by simp only[eF,dK,zE,Go.Ab.ret,h,h1,h2,C,iF]⟩
def X6{op:Op}{bt:Hp}{b:HB}(z:iu op=.make)(h:H.get bt.next=some b)(h2:j.get bt.next=some b):sM P cfg ⟨op,true,E,bt,v,j⟩ H:=by
 unfold sM;simp_all
def X7{r:Rc}(h:J[i]?=some r)(U:r.did=true->sM P cfg r (Aw J H' m)):Dt P cfg J H' i m:=by
 unfold Dt;simp_all
end
section
variable {P:Program} {cfg:Cfg} {f:FuncId} {l:List SOp} {E:aq} {H:Hp} {Q:aq -> Hp -> Prop} {d:Nat} {x y:Operand} {ts:Array TypeId} {k k':IntKind} {a b:Int}
def aI.min2(h:aT E x=some (.int k a))(h1:aT E y=some (.int k' b))(z:aI P cfg f l (T.set E d (some (.int k (min a b)))) H Q):aI P cfg f (⟨some d,.call ⟨.builtin .min,#[x,y],ts⟩,none⟩::l) E H Q:=
 Dn (c:=⟨.builtin .min,#[x,y],ts⟩) rfl (vs:=[.int k a,.int k' b]) HJ (v:=.int k (min a b)) (by
  simp only[sB,uO,mm,dM,fG,rG]
  congr 3;omega) z
def aI.max2(h:aT E x=some (.int k a))(h1:aT E y=some (.int k' b))(z:aI P cfg f l (T.set E d (some (.int k (max a b)))) H Q):aI P cfg f (⟨some d,.call ⟨.builtin .max,#[x,y],ts⟩,none⟩::l) E H Q:=
 Dn (c:=⟨.builtin .max,#[x,y],ts⟩) rfl (vs:=[.int k a,.int k' b]) HJ (v:=.int k (max a b)) (by
  simp only[sB,uO,mm,ft,rG]
  congr 3;omega) z
end
attribute [irreducible] dC
end Go.Ab
