/- Lemmas for the last file. -/
import Derived.Test.YtbflaciihaijgaaGEN
set_option linter.all false
set_option maxHeartbeats 32000000
namespace Go.Ab
set_option maxRecDepth 20000
open Go
variable{qd:Prop}
def uv(h:qd:=by rw[p3];decide):=h
def uw(h:qd:=by rw[p4];decide):=h
def zH(h:qd:=by rw[U.s];decide):=h
def je(h:qd:=by unfold oY;omega):=h
def zI(h:qd:=by show oY (k:Int);unfold oY;omega):=h
def zJ(h:qd:=by simp only;omega):=h
def J0(h:qd:=by show(if _ then _ else _)=0;rw[if_neg ac];exact Y q hq):=h
def Vq:=@or_false
def wu:=@List.mem_or_eq_of_mem_set
def J1:=@Int.tmod_eq_emod_of_nonneg
def Vr:=And.intro @eK.{0} @IL.{0}
def mh:=And.intro Vr @Vq
end Go.Ab
namespace Go.Proofs.Ytbflaciihaijgaa
set_option maxRecDepth 20000
open Go Go.Ab Proofs.Try
variable{z N:List bB}{W:Nat->Nat}{L n i:Nat}{K:Hp}{l:qz}{t b:Int}{k:Ex}{x:St}{M:qp}{f:Fu}{c:Cx}
section
def tyPzI.tyF:=ad @cJ (ad @cM (ad @kQ (ad @kR (ad @fW (ad @lU (ad @kS (ad @kc (ad @pJ (ad @lV (ad @sn (ad @mI (ad @vN (ad @vO (@GB))))))))))))))
open tyPzI
noncomputable def J2:{c:SC // aG 77 (f10.body.getD .skip)=c}:=by
 refine⟨?_,?_⟩;rotate_left
 .simp only[f10,bK,aG,bF,bw,bH,bI,Nat.blt,Nat.ble];rfl
theorem ww:∀(n:Nat) (s:qn) (i:Nat) (l:qx),jG n s i=some l->l.length<=s.length
 |0,_,_,_,h=>by rw[jG]at h;cases h
 |n+1,[],i,l,h=>by
  rw[jG]at h;obtain rfl:=mO h;exact az _
 |n+1,c::r,i,l,h=>by
  rw[jG]at h;split at h
  .have:=ww n r (i+1) l h;simp only[cy];omega
  split at h
  .cases h
  split at h
  .rename_i V;have o:1<=cq (c::r):=by rw[cq,aB V];omega
   have hd:((c::r).drop (cq (c::r))).length+1<=(c::r).length:=by rw[ib];simp only[cy];omega
   split at h
   .obtain⟨_,_,h⟩:=bT.1 h;obtain⟨m,Z,rfl⟩:=eI.1 h;have:=ww n _ _ m Z;simp only[cy]at *;omega
   split at h
   .cases h
   obtain⟨m,Z,rfl⟩:=eI.1 h;have:=ww n _ _ m Z;simp only[cy]at *;omega
  .obtain⟨t,_,h⟩:=bT.1 h;obtain⟨m,Z,rfl⟩:=eI.1 h;have:=ww n r (i+1) m Z;simp only[cy];omega
def Vs(l:qx)(n m i:Nat)(Z:List Ar)(V:qH):j8 l n (m+1) i Z V=if l.length<=i then some ⟨Z,V⟩
 else if bP l i 0 [97,114,114,97,121]then (jq l (i+1)).bind fun s=>(xW l s.2).bind fun k=>(cS l k.2 [59]).bind fun i=>j8 l n m i (Z++[⟨s.1,k.1⟩]) V
 else (cS l i [102,117,110,99]).bind fun i=>(xX l n i).bind fun f=>j8 l n m f.2 Z (V++[f.1]):=by rw[j8]
noncomputable def oX:qs:=[JZ,BQ,oK,B4,B5]
def Vt(ρ:Nat->Int):iN prog ρ oX:=⟨Vn ρ,QV ρ,BX ρ,RO ρ,RR ρ,trivial⟩
def Vu:PzL oX:=⟨fun _=>rfl,fun _=>rfl,fun _=>rfl,fun _=>rfl,fun f o=>by
 unfold B6 at o;simp only[nF,List.any_nil,lL,jl,Nat.beq_eq]at o;obtain h|h|h|h|h|h|h|h|h|h|h|h|h|h|h|h|h:=o<;>subst h<;>exact⟨fun _=>rfl,rfl⟩⟩
def J3(xs:List ql)(n a b:Int):dF prog 77 [(0,.aq xs),(2,.int .i64 n),(3,.agg [.int .i64 a,.int .i64 b])]=some (.agg [.aq xs,.int .i64 0,.int .i64 n,.int .i64 a,.int .i64 b]):=aF
theorem J4(a b:AV):cr 2 [a,b]=some (.agg [a,b]):=rfl
def Vv(s:qn)(n:Int):dF prog 71 [(0,.ag s),(1,.int .i64 n)]=some (.agg [.ag s,.int .i64 n]):=aF
def Vw(H:Hp)(s:qn)(n:Int):ec prog H 23 1 [(0,.agg [.ag s,.int .i64 n])]=some (.sl H.next 0 1 2,H.alloc (.cells [.ag s,.int .i64 n] 0 true)):=aF
def Vx(H:Hp){cs:ql}(h:cs.length=9):ec prog H 39 1 [(0,.agg cs)]=some (.sl H.next 0 1 9,H.alloc (.cells cs 0 true)):=by
 obtain⟨c0,L,m,Z,Y,W,V,C,U,rfl⟩:∃c0 L m Z Y W V C U,cs=[c0,L,m,Z,Y,W,V,C,U]:=by
  match cs,h with
  |[c0,L,m,Z,Y,W,V,C,U],_=>exact⟨c0,L,m,Z,Y,W,V,C,U,rfl⟩
 kernel_rfl
def J5{P:Program}{t e:TypeId}{z b:Nat}{C:ql}(ht:P.underlying t=some (.slice e))(hs:br P e=some z)(hb:cw P e=some b)(hz:cj P e=some C)(V:C.length=z)(J:hB P t=true)
 {Kc:Hp}{v:AV}{Y:List ql} (h:b7 (fun q=>W q=L) n K z v Y) (hn:K.next<=Kc.next) (hk:∀q,q<K.next->q≠3->Kc.get q=K.get q) (p3:W 3≠L) (p4:W 4≠L) (h4:4<K.next) {row w:ql} (Z:row.length=z) (U:row.all AV.one=true) (hw:bW (fun q=>K.next<=q) n Kc row w)
 (O:(Y.length+1)*b<=cX) (M:Y.length+1<=cX) :
 ∃I H',cY P false (Kc.alloc (.cells row 0 true)) t t v (.sl Kc.next 0 1 z)=some (I,H')/\Kc.next+2<=H'.next/\(∀q,q<Kc.next->(K.next<=q\/W q≠L)->H'.get q=Kc.get q)/\(AV.one I=true/\I.cells=[I])/\∀x,b7 (fun q=>(if K.next<=q then L else W q)=L) n (H'.set 4 x) z I (Y++[w]):=by
 obtain⟨H',flat,imm',a1,a2,a3,a4,a5,a6,a7⟩:=Vo ht hs hb hz V J (Hb:=Kc.alloc (.cells row 0 true)) (r:=Kc.next) (imm:=0) (row:=row) h (by rw[bj];omega) (fun q o m=>by rw[aJ,ao ac];exact hk q o (fun e=>by subst e;exact p3 m)) jB Z U O M;rw[bj]at a1 a4 a5 a6 a7;refine⟨_,H',a1,ac,fun q o m=>by rw[a6 q ac m,aJ,ao ac],⟨rfl,rfl⟩,fun x=>?_⟩;exact a7 (H'.set 4 x) 4 row w (by rw[bJ];omega) (fun q o m=>by rw[bi,ao o]) p4 h4 (by rw[bi,ao ac];exact a4) Z (hw.aD (fun k o m=>⟨m,ac⟩) (dB _) fun k o m=>fC)
def b7.oth{Y z:Nat}{H':Hp}{v:AV}{Z:List ql}(h:b7 (fun q=>W q=Y) n K z v Z)(M:K.next<=H'.next)(V:W 3≠Y)(U:W 4≠Y)(O:Y≠L)(J:∀q,q<K.next->q≠3->W q≠L->H'.get q=K.get q)(x:HB):b7 (fun q=>(if K.next<=q then L else W q)=Y) n (H'.set 4 x) z v Z:=
 h.keep (fun k o m=>by show(if _ then _ else _)=Y;rw[ao ac];exact m) M fun k o m=>by
  rw[bi,ao (fun e=>by subst e;exact U o)];exact J k m (fun e=>by subst e;exact V o) (fun e=>O (o.symm.trans e))
set_option maxRecDepth 100000 in
theorem Vy(s:qn)(hs:sZ s)(hn20:n<2^20){p:Pr}(h:j8 (jy s) n n 0 [] []=some p):
 aX prog (aK pls oX) 10 [.ag s] bE fun v H'=>∃N av fv,v=.aO [.agg [av,fv],.agg [.int .i64 0,.int .i64 0]]/\cK (fun _=>True) N H' av (.aq (p.af.map Ar.cells))/\cK (fun _=>True) N H' fv (.aq (p.funcs.map Fu.cells)):=by
 have hG:=Vu;have hw:zaa (aK pls oX) 10:=hG.plain cC;have hkeep:(aK pls oX).keep 10=false:=rfl;have ksc:∀H:Hp,aX prog (aK pls oX) 23 [.ag s] H fun v H'=>v=.aO [wt (jy s),.agg [.int .i64 0,.int .i64 0]]/\H'=H:=fun H=>ev (enc:=fun s:qn=>[.ag s]) (ok:=sZ) (out:=fun s=>.aO [wt (jy s),.agg [.int .i64 0,.int .i64 0]]) (fun x y h=>fQ) (x:=s) rfl hs;have hl:(jy s).length<2^40:=by
  obtain⟨I,l,W⟩:=hs;have:jy s=l:=by unfold jy;rw[W];rfl
  rw[this];have:=ww _ _ _ _ W;omega
 obtain⟨l,hll⟩:∃l,l=jy s:=⟨_,rfl⟩;rw[<-hll]at h hl ksc;unfold wt at ksc;clear hll;refine bA (M:=77) (rs:=[.cell 2 41,.cell 3 44]) (hw.call _) hw.aF hw.ak func10 rfl rfl J2.2 rfl ?_;dsimp only[J2,bt,Nat.reduceAdd];have gh0:=@J3;repeat' (first
  |(apply aj ?_;clear hK K)|apply Rx.o ?_|apply aD ?_|(apply mK ?_;first|refine Rx.k (ksc _) ?_)|apply ai ?_|(apply ah fun K hK=>?_)|(apply ak 4 [(6,14),(10,14),(11,14)] fun K hK=>?_)|(apply ak 12 [(1,3),(1,5),(4,5)] fun K hK=>?_)|(apply ak 14 [(4,5),(4,6)] fun K hK=>?_)|(apply aV ?_;try intro _)|(apply aW ?_ ?_<;>clear hK K)|apply aU ?_|apply bD rfl ?_|apply aq ?_|apply am ?_|apply au ?_|apply aw ?_)
 generalize hKa:Hp.set _ 2 _=O;have iU:O.get 0=some qg:=by rw[<-hKa];rfl
 have a1:O.get 1=some qe:=by rw[<-hKa];rfl
 have a2:O.get 2=some qe:=by rw[<-hKa];rfl
 have an:O.next=3:=by rw[<-hKa];rfl
 clear hKa;have hld:eR prog O 44 (.ptr 2 0)=some (.agg [.int .i64 0,.int .i64 0]):=by rw[xN,a2];kernel_rfl
 have gh0:=@J3;repeat' (first
  |(apply aj ?_;clear hK K)|apply Rx.o ?_|apply aD ?_|apply ai ?_|(apply ah fun K hK=>?_)|(apply ak 4 [(6,14),(10,14),(11,14)] fun K hK=>?_)|(apply ak 12 [(1,3),(1,5),(4,5)] fun K hK=>?_)|(apply ak 14 [(4,5),(4,6)] fun K hK=>?_)|(apply aV ?_;try intro _)|(apply aW ?_ ?_<;>clear hK K)|apply aU ?_|apply bD rfl ?_|apply aq ?_|apply am ?_|apply au ?_|apply aw ?_)
 rw[an];generalize o:(O.alloc _).alloc _=Kb;have b0:Kb.get 0=some qg:=by rw[<-o];simp only[aJ,bj,an];exact iU
 have b1:Kb.get 1=some qe:=by rw[<-o];simp only[aJ,bj,an];exact a1
 have b3:Kb.get 3=some (.cells (dX l 0 (s.length:Int)) 0 true):=by rw[<-o];simp only[aJ,bj,an];rfl
 have b4:Kb.get 4=some qg:=by rw[<-o];simp only[aJ,bj,an];rfl
 have bn:Kb.next=5:=by rw[<-o];simp only[bj,an]
 clear o iU a1 a2 hld an;refine so [2,3,6,7] [0,1] (fun nn E Z=>∃(pt:Nat->Nat) (V:List Ar) (fs:qH) (U n4:Nat) (av fv:AV),nn<=n/\j8 l n nn U V fs=some p/\Z.get 3=some (.cells (dX l U (s.length:Int)) 0 true)/\Z.get 4=some (.cells [av,fv] 0 true)/\(∀q,q<5->pt q=0)/\b7 (fun q=>pt q=1) n4 Z 2 av (V.map Ar.cells)/\b7 (fun q=>pt q=2) n4 Z 9 fv (fs.map Fu.cells)/\U<=l.length/\V.length+fs.length+nn<=n) n ⟨fun _=>0,[],[],0,0,.aa,.aa,az _,h,b3,b4,fun _ _=>rfl,.inl ⟨rfl,rfl⟩,.inl ⟨rfl,rfl⟩,db _,aE⟩ ?_;rintro nn E Z hcE hrH hnH ⟨pt,V,fs,U,n4,av,fv,hnn,h,k3,k4,Y,z,rwf,hi',hlen⟩;(try simp only[bN,bO,bu,aM,a0,Nat.reduceBEq,Nat.reduceAdd,Nat.reduceLeDiff,tyF, *]at hcE);have dL:=(hrH 0 aE).trans b0;have k1:=(hrH 1 aE).trans b1;have hnx:5<=Z.next:=ac
 clear hrH b3 b4;cases nn with
 |zero=>rw[j8]at h;cases h
 |succ nn=>
 rw[Vs]at h;have ko:=oM hG k3;have gb:Z.get 3=some (.cells [.aq (l.map Tk.cells),.int .i64 (U:Int),.int .i64 s.length,.int .i64 0,.int .i64 0] 0 true):=k3;have ka:aX prog (aK pls oX) 25 [.ptr 3 0,.int .i64 0,.ag [97,114,114,97,121]] Z fun v H'=>v=.bool (bP l U 0 [97,114,114,97,121])/\H'=Z:=jM hG k3 hl ac 0 aZ [97,114,114,97,121];clear k3;have p3:=Y 3 aZ;have p4:=Y 4 aZ;split at h
 .rename_i hge;have hge':¬(U:Int)<l.length:=ac;obtain rfl:=mO h;repeat' (first
   |(apply aj ?_;clear hK K)|apply Ry.o ?_|apply bq ?_|(apply ch ?_;first|refine Rx.k (ko) ?_)|(apply aY (fun hb L=>?_) (fun hb L=>?_)<;>try(cases hb;done))|apply ai ?_|(apply ah fun K hK=>?_)|(apply ak 4 [(6,14),(10,14),(11,14)] fun K hK=>?_)|(apply ak 12 [(1,3),(1,5),(4,5)] fun K hK=>?_)|(apply ak 14 [(4,5),(4,6)] fun K hK=>?_)|(apply aV ?_;try intro _)|(apply aW ?_ ?_<;>clear hK K)|apply aU ?_|apply bD rfl ?_|(apply fH (fun hg C=>?_) (fun hg C=>?_)<;>try(cases hg;done))|apply aq ?_|apply am ?_|apply au ?_|apply aw ?_)
  .exact cG
  .obtain⟨ova,cva⟩:=z.one;obtain⟨ovf,cvf⟩:=rwf.one;have gh0:=@J4;repeat' (first
    |(apply aj ?_;clear hK K)|apply Rx.o ?_|apply aD ?_|apply ai ?_|(apply ah fun K hK=>?_)|(apply ak 4 [(6,14),(10,14),(11,14)] fun K hK=>?_)|(apply ak 12 [(1,3),(1,5),(4,5)] fun K hK=>?_)|(apply ak 14 [(4,5),(4,6)] fun K hK=>?_)|(apply aV ?_;try intro _)|(apply aW ?_ ?_<;>clear hK K)|apply aU ?_|apply bD rfl ?_|apply aq ?_|apply am ?_|apply au ?_|apply aw ?_)
   refine⟨aP,_,(by(try simp only[aM,a0,Nat.reduceBEq,Nat.reduceAdd,Nat.reduceLeDiff,tyF,cU,da,J4, *]);first|done|with_reducible rfl),?_⟩;try simp only[aN]
   have hfin:∀k,pt k≠0->((Z.set 0 (.cells [av,fv] 0 true)).set 1 qe).get k=Z.get k:=fun k hk=>by rw[bi,ao (fun e=>by subst e;exact hk (Y 1 aZ)),bi,ao (fun e=>by subst e;exact hk (Y 0 aZ))]
   exact⟨n4+1,av,fv,rfl,z.rd.aD (fun _ _ _=>trivial) (az _) fun k I _=>hfin k (by rw[I];decide),rwf.rd.aD (fun _ _ _=>trivial) (az _) fun k I _=>hfin k (by rw[I];decide)⟩
 .rename_i hge;have hge':(U:Int)<l.length:=ac;split at h
  .rename_i har;obtain⟨nm,e1,h⟩:=bT.1 h;obtain⟨kk,e2,h⟩:=bT.1 h;obtain⟨i2,e3,h⟩:=bT.1 h;have ea:IntKind.wrap .i64 ((U:Int)+1)=((U+1:Nat):Int):=ei;repeat' (first
    |(apply aj ?_;clear hK K)|apply Ry.o ?_|apply bq ?_|(apply ch ?_;first|refine Rx.k (ko) ?_|refine Rx.k (ka) ?_)|(apply aY (fun hb L=>?_) (fun hb L=>?_)<;>try(cases hb;done))|apply ai ?_|(apply ah fun K hK=>?_)|(apply ak 4 [(6,14),(10,14),(11,14)] fun K hK=>?_)|(apply ak 12 [(1,3),(1,5),(4,5)] fun K hK=>?_)|(apply ak 14 [(4,5),(4,6)] fun K hK=>?_)|(apply aV ?_;try intro _)|(apply aW ?_ ?_<;>clear hK K)|apply aU ?_|apply bD rfl ?_|(apply fH (fun hg C=>?_) (fun hg C=>?_)<;>try(cases hg;done))|apply aq ?_|apply am ?_|apply au ?_|apply aw ?_)
   .exact cG
   generalize o:Hp.set Z 3 _=O;have ga:O.get 3=some (.cells (dX l (U+1) (s.length:Int)) 0 true):=by rw[<-o,bi,aB rfl];rfl
   have na:Z.next<=O.next:=by rw[<-o];exact az _
   have oa:∀q,q≠3->O.get q=Z.get q:=fun q hq=>by rw[<-o,bi,ao hq]
   clear o;refine qc ?_;refine aL ?_ (sG hG ga hl e1);rintro v Kc ⟨rfl,p1⟩;have dW:=p1.next
   dsimp only[aI];repeat' (first
    |(apply aj ?_;clear hK K)|apply Rx.o ?_|apply aD ?_|apply ai ?_|(apply ah fun K hK=>?_)|(apply ak 4 [(6,14),(10,14),(11,14)] fun K hK=>?_)|(apply ak 12 [(1,3),(1,5),(4,5)] fun K hK=>?_)|(apply ak 14 [(4,5),(4,6)] fun K hK=>?_)|(apply aV ?_;try intro _)|(apply aW ?_ ?_<;>clear hK K)|apply aU ?_|apply bD rfl ?_|apply aq ?_|apply am ?_|apply au ?_|apply aw ?_)
   refine qc ?_;refine aL ?_ (RZ hG p1.get hl e2);rintro v Kd ⟨rfl,p2⟩;have n2:=p2.next
   dsimp only[aI];repeat' (first
    |(apply aj ?_;clear hK K)|apply Rx.o ?_|apply aD ?_|apply ai ?_|(apply ah fun K hK=>?_)|(apply ak 4 [(6,14),(10,14),(11,14)] fun K hK=>?_)|(apply ak 12 [(1,3),(1,5),(4,5)] fun K hK=>?_)|(apply ak 14 [(4,5),(4,6)] fun K hK=>?_)|(apply aV ?_;try intro _)|(apply aW ?_ ?_<;>clear hK K)|apply aU ?_|apply bD rfl ?_|apply aq ?_|apply am ?_|apply au ?_|apply aw ?_)
   refine qc ?_;refine aL ?_ (fX hG p2.get hl e3);rintro v Ke p3';have n3:=p3'.next
   have oe:∀q,q<Z.next->q≠3->Ke.get q=Z.get q:=fun q I W=>(p3'.aT q ac W).trans ((p2.aT q ac W).trans ((p1.aT q ac W).trans (oa q W)))
   dsimp only[aI];obtain⟨rv,Kf,af,nf,ff,⟨orv,crv⟩,rwn⟩:=J5 (P:=prog) (t:=23) underlying23 vE ya yb rfl aF (z.up (m:=n4+3) ac) (Kc:=Ke) ac oe uv uw ac (row:=[.ag nm.1,.int .i64 kk.1]) (w:=(⟨nm.1,kk.1⟩:Ar).cells) rfl rfl (.cons (.ag _) (.cons (.int _ _) .nil)) nJ nJ;have g4e:=(oe 4 ac aZ).trans k4;have g4f:=(ff 4 ac (.inr uw)).trans g4e;obtain⟨ovf,cvf⟩:=rwf.one;have gh0:=@Vv;have gh1:=@Vw;repeat' (first
    |(apply aj ?_;clear hK K)|apply Rx.o ?_|apply aD ?_|apply ai ?_|(apply ah fun K hK=>?_)|(apply ak 4 [(6,14),(10,14),(11,14)] fun K hK=>?_)|(apply ak 12 [(1,3),(1,5),(4,5)] fun K hK=>?_)|(apply ak 14 [(4,5),(4,6)] fun K hK=>?_)|(apply aV ?_;try intro _)|(apply aW ?_ ?_<;>clear hK K)|apply aU ?_|apply bD rfl ?_|apply aq ?_|apply am ?_|apply au ?_|apply aw ?_)
   refine⟨bm,fun r hr=>?_,?_,nn,ct _,fun q=>if Z.next<=q then 1 else pt q,V++[⟨nm.1,kk.1⟩],fs,i2,n4+3,rv,fv,ac,h,?_,eT,fun q hq=>J0,by rw[mD];exact rwn _,(rwf.up ac).oth ac uv uw aZ (fun q I W h3=>(ff q ac (.inr h3)).trans (oe q I W)) _,p3'.le,nK⟩
   .have J:r<5/\r≠3/\r≠4:=by simp only[mh]at hr;omega
    rw[bi,ao J.2.2,ff r ac (.inr (by rw[Y r J.1];decide)),oe r ac J.2.1];rcases eK.1 hr with rfl|hr
    .exact dL.trans b0.symm
    .obtain rfl:=tM.1 hr;exact k1.trans b1.symm
   .simp only[bJ];omega
   .rw[bi,ao aZ,ff 3 ac (.inr uv)];exact p3'.get
  .rename_i har;have har:bP l U 0 [97,114,114,97,121]=false:=by simpa using har
   obtain⟨i2,e1,h⟩:=bT.1 h;obtain⟨f,e2,h⟩:=bT.1 h;repeat' (first
    |(apply aj ?_;clear hK K)|apply Ry.o ?_|apply bq ?_|(apply ch ?_;first|refine Rx.k (ko) ?_|refine Rx.k (ka) ?_)|(apply aY (fun hb L=>?_) (fun hb L=>?_)<;>try(cases hb;done))|apply ai ?_|(apply ah fun K hK=>?_)|(apply ak 4 [(6,14),(10,14),(11,14)] fun K hK=>?_)|(apply ak 12 [(1,3),(1,5),(4,5)] fun K hK=>?_)|(apply ak 14 [(4,5),(4,6)] fun K hK=>?_)|(apply aV ?_;try intro _)|(apply aW ?_ ?_<;>clear hK K)|apply aU ?_|apply bD rfl ?_|(apply fH (fun hg C=>?_) (fun hg C=>?_)<;>try(cases hg;done))|apply aq ?_|apply am ?_|apply au ?_|apply aw ?_)
   .exact cG
   refine qc ?_;refine aL ?_ (fX hG gb hl e1);rintro v O p1;have dW:=p1.next
   have k4a:=(p1.aT 4 ac aZ).trans k4;dsimp only[aI];repeat' (first
    |(apply aj ?_;clear hK K)|apply Rx.o ?_|apply aD ?_|apply ai ?_|(apply ah fun K hK=>?_)|(apply ak 4 [(6,14),(10,14),(11,14)] fun K hK=>?_)|(apply ak 12 [(1,3),(1,5),(4,5)] fun K hK=>?_)|(apply ak 14 [(4,5),(4,6)] fun K hK=>?_)|(apply aV ?_;try intro _)|(apply aW ?_ ?_<;>clear hK K)|apply aU ?_|apply bD rfl ?_|apply aq ?_|apply am ?_|apply au ?_|apply aw ?_)
   refine qc ?_;refine aL ?_ (Sw hG hl hn20 p1.le e2 O ⟨p1.get,ac⟩);rintro v Kc ⟨⟨n5,cs,rfl,c1,c2,c3⟩,p2⟩;have n2:=p2.next
   have oe:∀q,q<Z.next->q≠3->Kc.get q=Z.get q:=fun q I W=>(p2.aT q ac W).trans (p1.aT q I W)
   dsimp only[aI];have kbf:=fun H=>Vx H c1;obtain⟨rv,Kf,af,nf,ff,⟨orv,crv⟩,rwn⟩:=J5 (P:=prog) (t:=39) underlying39 Bx Fa Fc rfl aF (rwf.up (m:=max n4 n5) ac) (Kc:=Kc) ac oe uv uw ac (row:=cs) (w:=f.1.cells) c1 c2 ((c3.up ac).aD (fun k _ h=>ac) (az _) fun _ _ _=>rfl) nJ nJ;have g4e:=(oe 4 ac aZ).trans k4;have g4f:=(ff 4 ac (.inr uw)).trans g4e;obtain⟨ova,cva⟩:=z.one;have ma1:(4 == Kc.next)=false:=bQ ac;have ma2:(Kc.next == 4)=false:=bQ ac;repeat' (first
    |(apply aj ?_;clear hK K)|apply Rx.o ?_|apply aD ?_|apply ai ?_|(apply ah fun K hK=>?_)|(apply ak 4 [(6,14),(10,14),(11,14)] fun K hK=>?_)|(apply ak 12 [(1,3),(1,5),(4,5)] fun K hK=>?_)|(apply ak 14 [(4,5),(4,6)] fun K hK=>?_)|(apply aV ?_;try intro _)|(apply aW ?_ ?_<;>clear hK K)|apply aU ?_|apply bD rfl ?_|apply aq ?_|apply am ?_|apply au ?_|apply aw ?_)
   .exact cG
   refine⟨bm,fun r hr=>?_,?_,nn,ct _,fun q=>if Z.next<=q then 2 else pt q,V,fs++[f.1],f.2,max n4 n5,av,rv,ac,h,?_,eT,fun q hq=>J0,(z.up ac).oth ac uv uw aZ (fun q I W h3=>(ff q ac (.inr h3)).trans (oe q I W)) _,by rw[mD];exact rwn _,p2.le,nK⟩
   .have J:r<5/\r≠3/\r≠4:=by simp only[mh]at hr;omega
    rw[bi,ao J.2.2,ff r ac (.inr (by rw[Y r J.1];decide)),oe r ac J.2.1];rcases eK.1 hr with rfl|hr
    .exact dL.trans b0.symm
    .obtain rfl:=tM.1 hr;exact k1.trans b1.symm
   .simp only[bJ];omega
   .rw[bi,ao aZ,ff 3 ac (.inr uv)];exact p2.get
def Vz{cfg:Cfg}(fit:Fit prog){ρ:Nat->Int}(J:kF cfg.b9 ρ)(L:∀f C r,cfg.call f C=some r->cp prog ρ f C r){g:FuncId}{C:ql}{r:AV}
 (V:eO C) (h:aX prog cfg g C bE fun v H'=>∃n m u,iceV H' m v=some u/\eP n u=r):cp prog ρ g C r:=by
 unfold aX at h;obtain⟨v,H',o,n,Z⟩:=h;exact BT (n:=n) fit J L V (by unfold aX;exact⟨v,H',o,Z⟩)
theorem VA(ρ:Nat->Int)(s:qn)(U:sZ s)(Y:n<2^20){p:Pr}(h:j8 (jy s) n n 0 [] []=some p):cp prog ρ 10 [.ag s] (.aO [.agg p.cells,.agg [.int .i64 0,.int .i64 0]]):=by
 refine Vz (cfg:=aK pls oX) fit (tz ρ) (fun g m r L=>iN.cn (l:=oX) (Vt ρ) g m r L) (.cons (.ag _) .nil) (aL (fun v H' h=>?_) (Vy s U Y h));obtain⟨N,M,V,rfl,⟨o,J,O⟩,⟨z,I,C⟩⟩:=h;obtain⟨Z,hm⟩:=tU (S:=fun _=>True) (n:=N) (H:=H') (fun k=>cH.iceV k) (l:=[M,V]) (k:=[o,z]) ⟨J,I,trivial⟩;have hz:eP N (.int .i64 0)=.int .i64 0:=by cases N<;>rfl
 refine⟨N+2,Z+3,.aO [.agg [o,z],.agg [.int .i64 0,.int .i64 0]],?_,?_⟩
 .have e1:iceV H' (Z+3) (.aO [.agg [M,V],.agg [.int .i64 0,.int .i64 0]])=match iceL (iceV H' (Z+2)) [.agg [M,V],.agg [.int .i64 0,.int .i64 0]]with
   |some vs=>some (.aO vs)
   |none=>none:=rfl
  have W:iceV H' (Z+2) (.agg [M,V])=match iceL (iceV H' (Z+1)) [M,V]with
   |some vs=>some (.agg vs)
   |none=>none:=rfl
  have e3:iceV H' (Z+2) (.agg [.int .i64 0,.int .i64 0])=some (.agg [.int .i64 0,.int .i64 0]):=rfl;rw[hm (Z+1) (dB _)]at W;rw[e1];simp only[iceL,W,e3]
 .show AV.aO [.agg [eP N o,eP N z],.agg [eP N (.int .i64 0),eP N (.int .i64 0)]]=_;rw[O N (az _),C N (az _),hz];rfl
end
section
def fM(l:qz)(n:Nd):Int:=match jd l.length (fZ l l.length) n.aj with
 |none=>0
 |some s=>if ej n.op s&&dY l n then iQ n s else 0
def VB{op:Int}{s:qp}(h:ej op s=true)(e:op=25):s.length=1:=by
 subst e;unfold ej at h;have:gF 25=(1,true):=aZ;rw[this]at h;simp only[py,cm]at h;split at h
 .cases h
 .omega
theorem J6(l:qz)(n:Nd):iu (l++[n]) l.length=fM l n:=by
 rw[yS aE];have V:(l++[n]).take l.length=l:=List.take_left;have U:fZ (l++[n]) l.length=fZ l l.length:=by
  have:=Cf (l:=l++[n]) (m:=l.length) (i:=l.length) (az _);rw[V]at this;exact this.symm
 have M:(l++[n])[l.length]?=some n:=by rw[lC (az _),rJ];rfl
 unfold nP fM;rw[U,M];simp only;cases z:jd l.length (fZ l l.length) n.aj with
 |none=>rfl
 |some s=>
  simp only;by_cases c:ej n.op s=true
  .have e:dY l n=dY (l++[n]) n:=by
    have:=Hx (l:=l++[n]) (m:=l.length) (n:=n) fun W=>by
     have Z:=Ce z;have Y:=VB c W;cases o:n.aj with
     |nil=>rw[o,Y]at Z;simp at Z
     |cons k C=>
      refine⟨k,C,rfl,?_⟩;have:=yR z k (by rw[o];exact eL);omega
    rw[V]at this;exact this
   rw[e]
  .have J:ej n.op s=false:=by simpa using c
   rw[J,jI,jI]
theorem J7{l:qz}:∀{C:qp},(∀k∈C,0<=k/\k<l.length/\iu l k≠0)->jd l.length (fZ l l.length) C=some (C.map (iu l))
 |[],_=>rfl
 |k::C,h=>by
  obtain⟨Z,m,I⟩:=h k eL;obtain⟨k,rfl⟩:=rW Z;have e:=Cg (l:=l) (i:=l.length) (j:=k) ac (az _);rw[jd,ny,e,ao ac,J7 fun q o=>h q (fR _ o)];rfl
def jR{n:Nd}(h:∀k∈n.aj,0<=k/\k<l.length/\iu l k≠0):fM l n=if ej n.op (n.aj.map (iu l))&&dY l n then iQ n (n.aj.map (iu l))else 0:=by
 unfold fM;rw[J7 h]
structure IsT (l:qz) (t:Int) (k:Int):Prop where
 lo:0<=k
 hi:k<l.length
 s:iu l k=t
def IsT.le{O:qz}{k:Int}(h:IsT l t k)(W:l<+:O):IsT O t k:=by
 obtain⟨m,rfl⟩:=W;obtain⟨o,Z,I⟩:=h;obtain⟨k,rfl⟩:=rW o;exact⟨o,by rw[em];omega,by rw[Hy ac];exact I⟩
section
variable {l:qz}
def VC(n:Int):fM l ⟨1,n,[]⟩=1:=by
 rw[jR aE];simp[ej,gF,kg,eZ,dY,iQ]
def VD{n:Int}(Z:0<=n)(h1:n<=5):fM l ⟨2,n,[]⟩=1:=by
 rw[jR aE];simp[ej,gF,kg,eZ,dY,iP,iQ,Z,h1]
def J8{n:Int}(Z:0<=n)(h1:n<=255):fM l ⟨3,n,[]⟩=if n.tmod 16=0 then 2 else 1:=by
 rw[jR aE];simp[ej,gF,kg,eZ,dY,iP,iQ,Z,h1]
def VE:fM l ⟨26,0,[]⟩=2:=by
 rw[jR aE];simp[ej,gF,kg,eZ,dY,iP,iQ]
def VF{op a:Int}(J:IsT l 1 a)(C:IsT l 1 b)(Z:4<=op)(h1:op<=19):fM l ⟨op,0,[a,b]⟩=1:=by
 have q:∀k:Int,(k<4\/19<k)->¬op=k:=fun k z e=>ac;have m:gF op=(2,true):=by
  unfold gF;rw[ao ac,ao ac,ao ac,ao ac,ao ac,aB ⟨Z,h1⟩]
 rw[jR (fun k z=>by
  simp only[mh]at z;rcases z with rfl|rfl
  .exact⟨J.lo,J.hi,by rw[J.s];decide⟩
  .exact⟨C.lo,C.hi,by rw[C.s];decide⟩)]
 simp only[eJ,rp,J.s,C.s];have v:ej op [1,1]=true:=by
  unfold ej;rw[m,ao aE,ao aE,ao (q 31 ac),ao (q 30 ac),ao (fun h=>q 22 ac h.1)];unfold kg;rw[ao (q 22 ac),ao (by have:=q 23 ac;have:=q 27 ac;have:=q 29 ac;omega),ao (q 28 ac),ao (q 24 ac),ao (q 25 ac)];rfl
 have i:dY l ⟨op,0,[a,b]⟩=true:=by
  unfold dY iP;simp only[];rw[ao (q 1 ac),ao (q 27 ac),ao (q 2 ac),ao (q 3 ac),ao (by have:=q 23 ac;have:=q 28 ac;omega),ao (q 30 ac),ao (q 31 ac),ao (q 25 ac)];rfl
 rw[v,i];simp only[ox,cg];unfold iQ;simp only[];rw[ao (q 31 ac),ao ac,ao (q 22 ac),ao (fun h=>q 3 ac h.1),ao (fun h=>q 25 ac h.1)]
def VG{op a:Int}(J:IsT l 1 a)(Z:op=20\/op=21):fM l ⟨op,0,[a]⟩=1:=by
 rw[jR (fun k z=>by
  simp only[mh]at z;subst z;exact⟨J.lo,J.hi,by rw[J.s];decide⟩)]
 simp only[eJ,rp,J.s];rcases Z with rfl|rfl<;>simp[ej,gF,kg,eZ,dY,iP,iQ]
def VH{c a:Int}(L:IsT l 1 c)(J:IsT l t a)(C:IsT l t b)(V:t=1\/t=2):fM l ⟨22,0,[c,a,b]⟩=t:=by
 rw[jR (fun k z=>by
  simp only[mh]at z;rcases z with rfl|rfl|rfl
  .exact⟨L.lo,L.hi,by rw[L.s];decide⟩
  .exact⟨J.lo,J.hi,by rw[J.s];omega⟩
  .exact⟨C.lo,C.hi,by rw[C.s];omega⟩)]
 simp only[eJ,rp,J.s,C.s,L.s];rcases V with rfl|rfl<;>simp[ej,gF,kg,eZ,dY,iP,iQ]
def CW{x y a:Int}(O:x≠0)(W:y≠0)(J:IsT l x a)(C:IsT l y b):∀k∈[a,b],0<=k/\k<l.length/\iu l k≠0:=fun k z=>by
 simp only[mh]at z;rcases z with rfl|rfl
 .exact⟨J.lo,J.hi,by rw[J.s];exact O⟩
 .exact⟨C.lo,C.hi,by rw[C.s];exact W⟩
def VI{n s a:Int}(U:IsT l 2 s)(J:IsT l 1 a)(Z:0<=n)(h1:n<=3):fM l ⟨23,n,[s,a]⟩=1:=by
 rw[jR (CW aZ aZ U J)];simp[U.s,J.s,ej,gF,kg,eZ,dY,iP,iQ,Z,h1]
def VJ{n s a:Int}(U:IsT l 2 s)(J:IsT l 1 a)(Z:1<=n)(h1:n<=1000016):fM l ⟨27,n,[s,a]⟩=2:=by
 rw[jR (CW aZ aZ U J)];simp[U.s,J.s,ej,gF,kg,eZ,dY,iP,iQ,Z,h1]
def VK{s a:Int}(U:IsT l 2 s)(J:IsT l 1 a):fM l ⟨29,0,[s,a]⟩=2:=by
 rw[jR (CW aZ aZ U J)];simp[U.s,J.s,ej,gF,kg,eZ,dY,iP,iQ]
def VL{n s a:Int}(U:IsT l 2 s)(J:IsT l 1 a)(C:IsT l 1 b)(Z:0<=n)(h1:n<=3):fM l ⟨28,n,[s,a,b]⟩=2:=by
 rw[jR (fun k z=>by
  simp only[mh]at z;rcases z with rfl|rfl|rfl
  .exact⟨U.lo,U.hi,zH⟩
  .exact⟨J.lo,J.hi,by rw[J.s];decide⟩
  .exact⟨C.lo,C.hi,by rw[C.s];decide⟩)]
 simp[U.s,J.s,C.s,ej,gF,kg,eZ,dY,iP,iQ,Z,h1]
def VM{s:Int}(U:IsT l 2 s):fM l ⟨24,0,[s]⟩=1:=by
 rw[jR (fun k z=>by
  simp only[mh]at z;subst z;exact⟨U.lo,U.hi,zH⟩)]
 simp[U.s,ej,gF,kg,eZ,dY,iP,iQ]
theorem zK:∀{M:qp},(∀a∈M,IsT l 1 a)->M.map (iu l)=List.replicate M.length 1
 |[],_=>rfl
 |a::M,h=>by
  rw[eJ,(h a eL).s,zK fun x O=>h x (fR _ O)];rfl
def VN{n s:Int}(U:IsT l 2 s)(J:∀a∈M,IsT l 1 a)(W:M.length<=6)(Z:0<=n)(h1:n<=7):fM l ⟨30,n,s::M⟩=2:=by
 rw[jR (fun k z=>by
  rcases eK.1 z with rfl|z
  .exact⟨U.lo,U.hi,zH⟩
  .exact⟨(J k z).lo,(J k z).hi,by rw[(J k z).s];decide⟩)]
 simp only[eJ,U.s,zK J];have v:ej 30 (2::List.replicate M.length 1)=true:=by
  have a:gF 30=(-1,true):=aZ;unfold ej;rw[a];simp only[py,cm];rw[ao ac,ao ac,aB trivial];simp only[cy,p6,vU,List.tail_cons,j0];refine⟨⟨⟨ac,ac⟩,trivial⟩,?_⟩;rw[gk];intro x O;rw[yM O];rfl
 have i:dY l ⟨30,n,s::M⟩=true:=by simp[dY,iP,Z,h1]
 rw[v,i];simp[iQ]
def VO{n s d st:Int}{bs:qp}(U:IsT l 2 s)(J:∀a∈M,IsT l 1 a)(hd:IsT l 1 d)(Z:IsT l 2 st)(C:∀a∈bs,IsT l 1 a)(W:M.length=bs.length)(L:M.length<=15)(V:0<=n)(h1:n<=15):fM l ⟨31,n,s::M++[d,st]++bs⟩=3:=by
 rw[jR (fun k z=>by
  simp only[ow,mh]at z;rcases z with((rfl|z)|rfl|rfl)|z
  .exact⟨U.lo,U.hi,zH⟩
  .exact⟨(J k z).lo,(J k z).hi,by rw[(J k z).s];decide⟩
  .exact⟨hd.lo,hd.hi,by rw[hd.s];decide⟩
  .exact⟨Z.lo,Z.hi,by rw[Z.s];decide⟩
  .exact⟨(C k z).lo,(C k z).hi,by rw[(C k z).s];decide⟩)]
 have hm:(s::M++[d,st]++bs).map (iu l)=2::(List.replicate M.length 1++1::2::List.replicate M.length 1):=by
  simp only[mD,eJ,rp,U.s,hd.s,Z.s,zK J,zK C,W];simp
 simp only[];rw[hm];generalize hn:M.length=m at *;have o:(2::(List.replicate m (1:Int)++1::2::List.replicate m 1)).length=2*m+3:=co;have v:ej 31 (2::(List.replicate m 1++1::2::List.replicate m 1))=true:=by
  have a:gF 31=(-1,true):=aZ;unfold ej;rw[a];simp only[py,cm];rw[ao ac,aB trivial];have Y:=SL (2::(List.replicate m (1:Int)++1::2::List.replicate m 1)) ac ac;have e1:(2*m+3)/2=m+1:=ac;rw[o]at Y⊢;rw[Y,e1];have O:∀k,sJ (List.replicate k (1:Int))=true:=fun k=>by
   rw[sJ,gk];intro x I;rw[yM I];rfl
  have h1:((2::(List.replicate m (1:Int)++1::2::List.replicate m 1)).drop 1).take (m+1)=List.replicate (m+1) 1:=by
   rw[xH,ft,List.take_append,p6,fk aE,show m+1-m=1 by omega];rw[List.replicate_succ'];rfl
  have h2:(2::(List.replicate m (1:Int)++1::2::List.replicate m 1)).getD (m+1+1) 0=2:=by
   rw[List.getD_cons_succ,fY,lC aE,p6,show m+1-m=1 by omega];rfl
  have h3:(2::(List.replicate m (1:Int)++1::2::List.replicate m 1)).drop (m+1+2)=List.replicate m 1:=by
   rw[xH,List.drop_append,p6,z8 aE,mZ,show m+1+1-m=2 by omega];rfl
  rw[h1,h2,h3,O,O];have e4:nO (((2*m+3:Nat):Nat):Int)<=16:=B9;simp only[vU,j0];refine⟨⟨⟨ac,ac⟩,e4⟩,⟨⟨⟨trivial,trivial⟩,trivial⟩,trivial⟩⟩
 have i:dY l ⟨31,n,s::M++[d,st]++bs⟩=true:=by simp[dY,iP,V,h1]
 rw[v,i];simp[iQ]
def J9{n k:Int}{q:Nd}(z:IsT l 3 k)(o:l[k.toNat]?=some q)(Z:0<=n)(h1:n<nO q.aj.length):fM l ⟨25,n,[k]⟩=if n=0 then 2 else 1:=by
 rw[jR (fun j I=>by
  simp only[mh]at I;subst I;exact⟨z.lo,z.hi,by rw[z.s];decide⟩)]
 have i:dY l ⟨25,n,[k]⟩=true:=by
  have:yO l k=q.aj.length:=by rw[yO,o]
  simp[dY,iP,this,Z];omega
 simp only[eJ,rp,z.s];rw[i];by_cases c:n=0<;>simp[ej,gF,kg,eZ,iQ,c]
end
def CX(l:qz):Prop:=∀i:Nat,i<l.length->iu l i≠0
theorem Kg{l:qz}{i:Nat}(J:i<=l.length):∀{C s:qp},jd i (fZ l i) C=some s->jd l.length (fZ l l.length) C=some s
 |[],s,h=>by cases h;rfl
 |k::C,s,h=>by
  rw[jd]at h;split at h
  .cases h
  .rename_i c;obtain⟨t,V,rfl⟩:=eI.1 h;obtain⟨k,rfl⟩:=rW (by omega:0<=k);rw[ny]at c;have M:=Cg (l:=l) (i:=i) (j:=k) ac J;have Y:=Cg (l:=l) (i:=l.length) (j:=k) ac (az _);rw[jd,ny,Y,ao (by rw[M]at c;omega),Kg J V];simp only[iG,ny,M]
def VP{n:Nd}(M:l[i]?=some n)(h:iu l i≠0):iu l i=fM l n:=by
 have J:i<l.length:=by
  by_cases c:i<l.length
  .exact c
  .rw[jm ac]at M;cases M
 rw[yS J]at h⊢;unfold nP at h⊢;unfold fM;rw[M]at h⊢;simp only at h⊢;cases z:jd i (fZ l i) n.aj with
 |none=>rw[z]at h;exact absurd rfl h
 |some s=>rw[Kg ac z]
def Kh{n:Nd}(V:CX l)(h:fM l n=t)(Z:t≠0):IsT (iz l n) t (fg l n)/\CX (iz l n):=by
 unfold iz;split
 .rename_i c;have L:=Is c;refine⟨⟨ac,ac,?_⟩,V⟩;rw[VP L (V _ c)];exact h
 .rename_i c;have:=CF l n;have e:fg l n=l.length:=ac;rw[e];refine⟨⟨ac,by rw[em];simp;omega,?_⟩,fun i J=>?_⟩
  .rw[J6];exact h
  .rw[em,List.length_singleton]at J;by_cases q:i<l.length
   .rw[Hy q];exact V i q
   .obtain rfl:i=l.length:=by omega
    rw[J6,h];exact Z
def oY(n:Int):Prop:=-9223372036854775808<=n/\n<9223372036854775808
mutual
def ku:Ex->Prop
 | .mk _ n _ _ C=>oY n/\ml C
def ml:qC->Prop
 |[]=>True
 |e::es=>ku e/\ml es
end
theorem Ki(x:Ex):ku x↔oY x.n/\ml x.aj:=by cases x;rw[ku];rfl
mutual
def ux:St->Prop
 | .mk _ _ _ _ a v C U V=>ku a/\ku v/\ml C/\mn U/\mn V
def mn:qy->Prop
 |[]=>True
 |x::l=>ux x/\mn l
end
theorem zL(x:St):ux x↔ku x.aW/\ku x.value/\ml x.args/\mn x.a8/\mn x.bA:=by cases x;rw[ux];rfl
structure NdP (c:Cx) (np:Nat) (x:Nd):Prop where
 op:0<=x.op/\x.op<256
 aY:oY x.aY
 len:x.aj.length<=40
 pa:x.op=2->x.aY<np
 ar:x.op=23\/x.op=28->x.aY<c.af.length
 fn:x.op=30->0<=x.aY/\∃f,c.funcs[x.aY.toNat]?=some f/\x.aj.length=1+f.params.length
structure zag (c:Cx):Prop where
 a:∀x∈c.af,1<=x.len/\x.len<=16
 al:c.af.length<=4
 fl:c.funcs.length<=8
 fp:∀f∈c.funcs,f.params.length<=6
 nl:c.am.length<=14
structure LI (c:Cx) (np:Nat) (s:Bd):Prop where
 nd:s.l.Nodup
 wf:CX s.l
 p:∀x∈s.l,NdP c np x
 v:∀x∈s.vars,IsT s.l 1 x
 vl:s.vars.length=c.am.length
 st:IsT s.l 2 s.ab
def Kk{n:Nd}(h:l.Nodup):(iz l n).Nodup:=by
 unfold iz;split
 .exact h
 .rename_i c;exact List.nodup_append.2 ⟨h,aE,fun a J b C=>by
   simp only[mh]at C;subst C;rintro rfl;exact c (Ir.2 J)⟩
def VQ(l:qz)(n:Nd):(iz l n).length<=l.length+1:=by
 rw[Tz];split<;>omega
section
variable {c:Cx} {np:Nat} {s:Bd}
def LI.setS(h:LI c np s){x:Int}(O:IsT s.l 2 x):LI c np {s with ab:=x}:=⟨h.nd,h.wf,h.p,h.v,h.vl,O⟩
def LI.setV(h:LI c np s){x:qp}(O:∀y∈x,IsT s.l 1 y)(W:x.length=c.am.length):LI c np {s with vars:=x}:=⟨h.nd,h.wf,h.p,O,W,h.st⟩
def LI.dv(h:LI c np s)(x:Nat):LI c np {s with loops:=x}:=⟨h.nd,h.wf,h.p,h.v,h.vl,h.st⟩
def jz(h:LI c np s){n:Nd}(U:fM s.l n=t)(V:t≠0)(Z:NdP c np n):LI c np (ay n s).2/\IsT (ay n s).2.l t (ay n s).1/\(ay n s).2.l.length<=s.l.length+1:=by
 obtain⟨a,b⟩:=Kh h.wf U V;refine⟨⟨Kk h.nd,b,fun x O=>?_,fun x O=>(h.v x O).le (ug _ _),h.vl,h.st.le (ug _ _)⟩,a,VQ _ _⟩;rcases zf.1 O with O|rfl
 .exact h.p x O
 .exact Z
def k0(c:Cx)(np:Nat){op imm:Int}{o:qp}(Z:0<=op/\op<256)(J:oY imm)(z:o.length<=40)(h2:op≠2)(V:op≠23)(C:op≠28)(I:op≠30):NdP c np ⟨op,imm,o⟩:=
 ⟨Z,J,z,fun e=>absurd e h2,fun e=>e.elim (fun e=>absurd e V) fun e=>absurd e C,fun e=>absurd e I⟩
def uy(h:LI c np s){k a:Int}(z:IsT s.l 1 k)(J:IsT s.l t a)(C:IsT s.l t b)(V:t=1\/t=2):LI c np (bM k a b s).2/\IsT (bM k a b s).2.l t (bM k a b s).1/\(bM k a b s).2.l.length<=s.l.length+1:=by
 unfold bM;split
 .exact⟨h,J,dB _⟩
 .exact jz h (VH z J C V) ac (k0 _ _ aZ je aE aZ aZ aZ aZ)
def CY(h:LI c np s){v:Int}(Y:IsT s.l 1 v)(Z:1<=t)(h1:t<=1000016):LI c np (nS t v s)/\(nS t v s).l.length<=s.l.length+1:=by
 have:=jz h (n:=⟨27,t,[s.ab,v]⟩) (VJ h.st Y Z h1) aZ (k0 _ _ aZ je aE aZ aZ aZ aZ);exact⟨this.1.setS this.2.1,this.2.2⟩
def wy(h:LI c np s){n:Int}(M:oY n):LI c np (ay ⟨1,n,[]⟩ s).2/\IsT (ay ⟨1,n,[]⟩ s).2.l 1 (ay ⟨1,n,[]⟩ s).1/\(ay ⟨1,n,[]⟩ s).2.l.length<=s.l.length+1:=
 jz h (VC n) aZ (k0 _ _ aZ M aE aZ aZ aZ aZ)
def zM(h:LI c np s){op a:Int}(J:IsT s.l 1 a)(C:IsT s.l 1 b)(Z:4<=op)(h1:op<=19):LI c np (ay ⟨op,0,[a,b]⟩ s).2/\IsT (ay ⟨op,0,[a,b]⟩ s).2.l 1 (ay ⟨op,0,[a,b]⟩ s).1/\(ay ⟨op,0,[a,b]⟩ s).2.l.length<=s.l.length+1:=
 jz h (VF J C Z h1) aZ (k0 _ _ ac je aE ac ac ac ac)
def Kl(h:LI c np s){n i:Int}(M:oY n)(J:IsT s.l 1 i):LI c np (fK n i s)/\(fK n i s).l.length<=s.l.length+3:=by
 obtain⟨Z,z,O⟩:=wy h M;have U:=J.le (cR ⟨1,n,[]⟩ s).le.l;obtain⟨Y,V,W⟩:=zM Z (op:=19) U z aZ aZ;obtain⟨L,m⟩:=CY Y (t:=2) V aZ aZ;exact⟨L,by have:(fK n i s).l.length<=_:=m;omega⟩
def VS(h:LI c np s){i:Int}(J:IsT s.l 1 i):LI c np (oR i s)/\(oR i s).l.length<=s.l.length+3:=by
 obtain⟨Z,z,O⟩:=wy h (n:=0) je;have U:=J.le (cR ⟨1,0,[]⟩ s).le.l;obtain⟨Y,V,W⟩:=zM Z (op:=16) U z aZ aZ;obtain⟨L,m⟩:=CY Y (t:=1) V aZ aZ;exact⟨L,by have:(oR i s).l.length<=_:=m;omega⟩
def VT(L:zag c)(h:LI c np s){i:Int}(J:IsT s.l 1 i){k:Nat}(z:k<c.af.length):LI c np (ay ⟨23,k,[s.ab,i]⟩ s).2/\IsT (ay ⟨23,k,[s.ab,i]⟩ s).2.l 1 (ay ⟨23,k,[s.ab,i]⟩ s).1/\(ay ⟨23,k,[s.ab,i]⟩ s).2.l.length<=s.l.length+1:=by
 have al:=L.al;exact jz h (VI h.st J ac ac) aZ ⟨by show 0<=(23:Int)/\(23:Int)<256;decide,zI,by show 2<=40;decide,fun e=>absurd e (by show ¬(23:Int)=2;decide),fun _=>by show(k:Int)<_;omega,fun e=>absurd e (by show ¬(23:Int)=30;decide)⟩
def VU(L:zag c)(h:LI c np s){i v:Int}(J:IsT s.l 1 i)(Y:IsT s.l 1 v){k:Nat}(z:k<c.af.length):LI c np (ay ⟨28,k,[s.ab,i,v]⟩ s).2/\IsT (ay ⟨28,k,[s.ab,i,v]⟩ s).2.l 2 (ay ⟨28,k,[s.ab,i,v]⟩ s).1/\(ay ⟨28,k,[s.ab,i,v]⟩ s).2.l.length<=s.l.length+1:=by
 have al:=L.al;exact jz h (VL h.st J Y ac ac) aZ ⟨by show 0<=(28:Int)/\(28:Int)<256;decide,zI,by show 3<=40;decide,fun e=>absurd e (by show ¬(28:Int)=2;decide),fun _=>by show(k:Int)<_;omega,fun e=>absurd e (by show ¬(28:Int)=30;decide)⟩
def VV(h:LI c np s){v:Int}(Y:IsT s.l 1 v):LI c np (ay ⟨29,0,[s.ab,v]⟩ s).2/\IsT (ay ⟨29,0,[s.ab,v]⟩ s).2.l 2 (ay ⟨29,0,[s.ab,v]⟩ s).1/\(ay ⟨29,0,[s.ab,v]⟩ s).2.l.length<=s.l.length+1:=
 jz h (VK h.st Y) aZ (k0 _ _ aZ je aE aZ aZ aZ aZ)
def VW(h:LI c np s){v:Int}(Y:IsT s.l 2 v):LI c np (ay ⟨24,0,[v]⟩ s).2/\IsT (ay ⟨24,0,[v]⟩ s).2.l 1 (ay ⟨24,0,[v]⟩ s).1/\(ay ⟨24,0,[v]⟩ s).2.l.length<=s.l.length+1:=
 jz h (VM Y) aZ (k0 _ _ aZ je aE aZ aZ aZ aZ)
def VX(L:zag c)(h:LI c np s)(J:∀a∈M,IsT s.l 1 a){k:Nat}(o:c.funcs[k]?=some f)(W:M.length=f.params.length):LI c np (ay ⟨30,k,s.ab::M⟩ s).2/\IsT (ay ⟨30,k,s.ab::M⟩ s).2.l 2 (ay ⟨30,k,s.ab::M⟩ s).1/\(ay ⟨30,k,s.ab::M⟩ s).2.l.length<=s.l.length+1:=by
 have U:=L.fl;have V:=L.fp f (pA o);have z:k<c.funcs.length:=by
  by_cases q:k<c.funcs.length
  .exact q
  .rw[jm ac]at o;cases o
 exact jz h (VN h.st J ac ac ac) aZ ⟨by show 0<=(30:Int)/\(30:Int)<256;decide,zI,by show M.length+1<=40;omega,fun e=>absurd e (by show ¬(30:Int)=2;decide),fun e=>by rcases e with e|e<;>exact absurd e (by show ¬(30:Int)=_;decide),fun _=>⟨by show 0<=(k:Int);omega,f,by show c.funcs[(k:Int).toNat]?=_;rw[ny];exact o,by show M.length+1=_;omega⟩⟩
end
def VY{l:qC}(V:ml l)(h:l[i]?=some k):ku k:=by
 induction l generalizing i with
 |nil=>simp at h
 |cons e z ih=>
  rw[ml]at V;cases i with
  |zero=>simp at h;subst h;exact V.1
  |succ i=>exact ih V.2 fQ
def VZ{vs L:List bB}{l:qC}(V:ke vs L l=true)(h:l[i]?=some k):gr vs L k=true:=by
 induction l generalizing i with
 |nil=>simp at h
 |cons e z ih=>
  rw[ke,ca]at V;cases i with
  |zero=>simp at h;subst h;exact V.1
  |succ i=>exact ih V.2 fQ
def CZ{l:qC}(h:l[i]?=some k):1+k.sz<=iK l:=by
 have:=sd (pA h);omega
def Km{l:qC}{a b:Ex}(Z:l[0]?=some a)(h1:l[1]?=some b):2+a.sz+b.sz<=iK l:=by
 cases l with
 |nil=>simp at Z
 |cons x l=>
  simp at Z h1;subst Z;have:=CZ h1;rw[iK];omega
def V0{l:qC}{a b d:Ex}(Z:l[0]?=some a)(h1:l[1]?=some b)(h2:l[2]?=some d):3+a.sz+b.sz+d.sz<=iK l:=by
 cases l with
 |nil=>simp at Z
 |cons x l=>
  simp at Z h1 h2;subst Z;have:=Km (l:=l) h1 h2;rw[iK];omega
theorem uz:∀{l:List bB}{s:bB},bR l s=true->ce l s<l.length
 |[],s,h=>by simp[bR]at h
 |a::l,s,h=>by
  rw[ce];split
  .simp
  .rename_i c;have U:bR (a::l) s=(decide (a=s)||bR l s):=rfl;rw[U,p9 c,jC]at h;rw[aB h,cy];exact Nat.succ_lt_succ (uz h)
structure XOk (c:Cx) (x:Ex):Prop where
 wf:iq x=true
 df:gr c.am (c.af.map (·.name)) x=true
 rg:ku x
def XOk.dA{x:Ex}(h:XOk c x)(z:x.aj[i]?=some k):XOk c k:=by
 obtain⟨o,m,I⟩:=h;rw[Gc,ca]at o;rw[Gg,ca]at m;rw[Ki]at I;exact⟨Tu o.1 z,VZ m.1 z,VY I.2 z⟩
theorem nX{c:Cx}(hc:zag c){np:Nat}:∀(n:Nat) (x:Ex) (s:Bd),XOk c x->x.sz<n->LI c np s->∃r,dE c n x s=some r/\LI c np r.2/\IsT r.2.l 1 r.1/\r.2.l.length<=s.l.length+6*x.sz
 |0,x,s,hx,hd,hs=>by omega
 |n+1,x,s,hx,hd,hs=>by
  have L:=nX hc (np:=np) n;have hwf:=hx.wf;have M:=hx.df;have hrg:=(Ki x).1 hx.rg;rw[Gc,ca,sw]at hwf;rw[Gg,ca,jK]at M;have Z:=hwf.2;have hsz:=x.aV;unfold dE;by_cases e1:x.ah=1
  .rw[aB e1];obtain⟨a,b,d⟩:=wy hs hrg.1;exact⟨_,rfl,a,b,ac⟩
  rw[ao e1]at Z⊢;by_cases e2:x.ah=2
  .rw[aB e2];have hn:bR c.am x.name=true:=by have:=M.2;simp[e2]at this;exact this
   have O:ce c.am x.name<s.vars.length:=by rw[hs.vl];exact uz hn
   rw[bc O,iG];exact⟨_,rfl,hs,hs.v _ (dU O),by show s.l.length<=_;omega⟩
  rw[ao e2]at Z⊢;by_cases e3:x.ah=3
  .rw[aB e3]at Z⊢;simp only[j0]at Z;have hn:bR (c.af.map (·.name)) x.name=true:=by have:=M.2;simp[e3]at this;exact this
   have O:=uz hn;rw[dh]at O;obtain⟨k,z⟩:=sP x.aj (i:=0) ac;have hks:=CZ z;obtain⟨r,hr,W,U,r3⟩:=L k s (hx.dA z) ac hs;rw[z,cQ,hr,cQ,bc O,cQ];have ha:=hc.a _ (dU O);generalize c.af[ce (c.af.map (·.name)) x.name]=ar at ha⊢;obtain⟨a1,a2⟩:=Kl W (n:=ar.len) je U;obtain⟨J,I,b3⟩:=VT hc a1 (U.le (sR ar.len r.1 r.2).le.l) O;exact⟨_,rfl,J,I,ac⟩
  rw[ao e3]at Z⊢;by_cases e5:x.ah=5
  .have e4:¬x.ah=4:=by omega
   rw[ao e4,aB e5]at Z;rw[aB e5];simp only[j0]at Z;obtain⟨k,z⟩:=sP x.aj (i:=0) ac;obtain⟨k1,V⟩:=sP x.aj (i:=1) ac;obtain⟨k2,o⟩:=sP x.aj (i:=2) ac;have hks:=V0 z V o;obtain⟨r,hr,C,p2,p3⟩:=L k s (hx.dA z) ac hs;obtain⟨W,Y,m,q2,q3⟩:=L k1 r.2 (hx.dA V) ac C;have l1:=dm c n _ _ _ Y;obtain⟨U,hr2,t1,t2,t3⟩:=L k2 {W.2 with ab:=r.2.ab} (hx.dA o) ac (m.setS (C.st.le l1.le.l));have l2:=dm c n _ _ _ hr2;rw[z,cQ,hr,cQ,V,cQ,Y,cQ,o,cQ,hr2,cQ];have pc:IsT U.2.l 1 r.1:=(p2.le l1.le.l).le l2.le.l;obtain⟨cz,m2,m3⟩:=uy t1 pc (q2.le l2.le.l) t2 (.inl rfl);have lm:=eQ r.1 W.1 U.1 U.2;obtain⟨dW,n2,n3⟩:=uy cz (pc.le lm.le.l) ((m.st.le l2.le.l).le lm.le.l) cz.st (.inr rfl);have ln:=eQ r.1 W.2.ab (bM r.1 W.1 U.1 U.2).2.ab (bM r.1 W.1 U.1 U.2).2;refine⟨_,rfl,dW.setS n2,m2.le ln.le.l,?_⟩;simp only at t3⊢;omega
  rw[ao e5]at Z⊢;by_cases e4:x.ah=4
  .rw[aB e4]at Z;simp only[ca,jl,ji]at Z;have hl:x.aj.length=2\/x.aj.length=1:=by rcases Z.2 with h|h<;>omega
   obtain⟨k,z⟩:=sP x.aj (i:=0) ac;have hks:=CZ z;obtain⟨r,hr,C,p2,p3⟩:=L k s (hx.dA z) ac hs;rw[z,cQ,hr,cQ];by_cases e6:x.aj.length=1
   .rw[aB e6];have ho:x.op=20\/x.op=21:=by
     rcases Z.2 with h|h
     .omega
     .exact h.2
    obtain⟨a,b,d⟩:=jz C (VG p2 ho) aZ (k0 _ _ ac je aE ac ac ac ac);exact⟨_,rfl,a,b,ac⟩
   .rw[ao e6];obtain⟨k1,V⟩:=sP x.aj (i:=1) ac;have hks2:=Km z V;obtain⟨W,Y,m,q2,q3⟩:=L k1 r.2 (hx.dA V) ac C;have l1:=dm c n _ _ _ Y;rw[V,cQ,Y,cQ];have ho:4<=x.op/\x.op<=18:=by
     rcases Z.2 with h|h
     .have:=h.2;simp[yu]at this;exact this
     .omega
    have p2':=p2.le l1.le.l;by_cases e7:x.op=7\/x.op=8
    .rw[aB e7];obtain⟨a1,a2⟩:=VS m q2;have ld:=CH W.1 W.2;obtain⟨J,I,b3⟩:=zM a1 (p2'.le ld.le.l) (q2.le ld.le.l) (by omega:4<=x.op) ac;exact⟨_,rfl,J,I,ac⟩
    .rw[ao e7];obtain⟨J,I,b3⟩:=zM m p2' q2 (by omega:4<=x.op) ac;exact⟨_,rfl,J,I,ac⟩
  .rw[ao e4]at Z;simp at Z
theorem Kn{c:Cx}(L:zag c){np n:Nat}:∀(l:qC) (s:Bd),(∀x∈l,XOk c x)->iK l<n->LI c np s->∃r,nT c n l s=some r/\LI c np r.2/\(∀a∈r.1,IsT r.2.l 1 a)/\r.2.l.length<=s.l.length+6*iK l
 |[],s,hx,hd,hs=>⟨_,rfl,hs,aE,by show s.l.length<=_;omega⟩
 |x::l,s,hx,hd,hs=>by
  rw[iK]at hd⊢;obtain⟨r,hr,Z,V,M⟩:=nX L n x s (hx x eL) ac hs;obtain⟨Y,o,U,O,I⟩:=Kn (n:=n) L l r.2 (fun y W=>hx y (fR _ W)) ac Z;have m:=(sT c n _ _ _ o).1;refine⟨(r.1::Y.1,Y.2),by rw[nT,hr,cQ,o,cQ],U,fun a J=>?_,zJ⟩;rcases eK.1 J with rfl|J
  .exact V.le m.le.l
  .exact O a J
def oZ(c:Cx):Sc:=⟨c.am,some (c.af.map (·.name)),⟨c.af,c.funcs⟩⟩
structure SOk (c:Cx) (x:St):Prop where
 wf:sy x=true
 df:mN (oZ c) false x=true
 ar:mN (oZ c) true x=true
 rg:ux x
structure zar (c:Cx) (l:qy):Prop where
 wf:lY l=true
 df:ir (oZ c) false l=true
 ar:ir (oZ c) true l=true
 rg:mn l
section
variable {c:Cx}
def zar.cons{l:qy}(h:zar c (x::l)):SOk c x/\zar c l:=by
 obtain⟨o,m,I,Z⟩:=h;rw[lY,ca]at o;rw[ir,ca]at m I;rw[mn]at Z;exact⟨⟨o.1,m.1,I.1,Z.1⟩,⟨o.2,m.2,I.2,Z.2⟩⟩
def SOk.cL(h:SOk c x):zar c x.a8/\zar c x.bA:=by
 obtain⟨o,m,I,Z⟩:=h;rw[tS]at o;rw[BR]at m I;rw[zL]at Z;simp only[ca]at o m I;exact⟨⟨o.1.2,m.1.2,I.1.2,Z.2.2.2.1⟩,⟨o.2,m.2,I.2,Z.2.2.2.2⟩⟩
theorem Ko:∀{l:qC}{x:Ex},ml l->x∈l->ku x
 |[],x,_,h=>by simp at h
 |e::l,x,hw,h=>by
  rw[ml]at hw;rcases eK.1 h with rfl|h
  .exact hw.1
  .exact Ko hw.2 h
theorem Kp:∀{l:qC}{x:Ex},iO l=true->x∈l->iq x=true
 |[],x,_,h=>by simp at h
 |e::l,x,hw,h=>by
  rw[iO,ca]at hw;rcases eK.1 h with rfl|h
  .exact hw.1
  .exact Kp hw.2 h
theorem Kq{vs L:List bB}:∀{l:qC}{x:Ex},ke vs L l=true->x∈l->gr vs L x=true
 |[],x,_,h=>by simp at h
 |e::l,x,hw,h=>by
  rw[ke,ca]at hw;rcases eK.1 h with rfl|h
  .exact hw.1
  .exact Kq hw.2 h
def SOk.def(h:SOk c x):ke c.am (c.af.map (·.name)) x.args=true/\gr c.am (c.af.map (·.name)) x.aW=true/\gr c.am (c.af.map (·.name)) x.value=true/\mM (oZ c) x=true:=by
 have m:=h.df;rw[BR]at m;simp only[ca,rV,yA]at m;exact⟨m.1.1.1.1.1,m.1.1.1.1.2,m.1.1.1.2,m.1.1.2⟩
def SOk.args(h:SOk c x):∀a∈x.args,XOk c a:=fun a J=>by
 have o:=h.wf;have Z:=h.rg;rw[tS,mL]at o;rw[zL]at Z;simp only[ca]at o;exact⟨Kp o.1.1.1 J,Kq h.def.1 J,Ko Z.2.2.1 J⟩
def SOk.value(h:SOk c x)(z:x.ah=1\/x.ah=2\/x.ah=3\/x.ah=4\/x.ah=5):XOk c x.value:=by
 have o:=h.wf;have Z:=h.rg;rw[tS,mL,pQ]at o;rw[zL]at Z;simp only[ca]at o;refine⟨?_,h.def.2.2.1,Z.2.1⟩;have I:=o.1.1.2;rcases z with e|e|e|e|e<;>rw[e]at I<;>simp at I<;>simp[I]
def SOk.aW(h:SOk c x)(z:x.ah=2):XOk c x.aW:=by
 have o:=h.wf;have Z:=h.rg;rw[tS,mL,pQ]at o;rw[zL]at Z;simp only[ca]at o;refine⟨?_,h.def.2.1,Z.1⟩;have I:=o.1.1.2;rw[z]at I;simp at I;simp[I]
def SOk.d5(h:SOk c x)(z:x.ah=7):0<=x.n/\x.n<=1000000:=by
 have o:=h.wf;rw[tS,mL,pQ]at o;simp only[ca]at o;have I:=o.1.1.2;rw[z]at I;simp at I;exact⟨by simp[I],by simp[I]⟩
def SOk.kd(h:SOk c x):1<=x.ah/\x.ah<=7:=by
 have o:=h.wf;rw[tS,mL,pQ]at o;simp only[ca]at o;have I:=o.1.1.2;by_cases e:1<=x.ah/\x.ah<=7
 .exact e
 .rw[ao ac,ao ac,ao ac,ao ac,ao ac,ao ac,ao ac]at I;cases I
def SOk.name(h:SOk c x)(z:x.ah=1\/x.ah=6):ce c.am x.name<c.am.length:=by
 have:=h.def.2.2.2;rw[mM]at this;rcases z with e|e<;>simp[e,oZ]at this
 .exact uz this
 .exact uz this.1
def SOk.arr(h:SOk c x)(z:x.ah=2):ce (c.af.map (·.name)) x.name<c.af.length:=by
 have:=h.def.2.2.2;rw[mM]at this;simp[z,oZ,Sc.an]at this;have:=uz this
 rwa [dh]at this
def SOk.call(h:SOk c x)(z:x.ah=6):0<=dl c.funcs x.to 0/\x.args.length=pS ⟨c.af,c.funcs⟩ x.to:=by
 have o:=h.def.2.2.2;have I:=h.ar;rw[mM]at o;simp[z,oZ]at o;rw[BR]at I;simp only[ca,gy,pT,z]at I;simp[oZ]at I;have W:=p8 I.1.1;exact⟨p8 o.2,ac⟩
end
theorem zN{c:Cx}:∀(n:Nat) (l:qy) (b:qF),zar c l->2*dQ l<n->b.length=c.am.length->∃b',el c.am n l b=some b'/\b'.length=c.am.length
 |0,l,b,_,h,_=>by omega
 |n+1,[],b,_,_,hb=>⟨b,rfl,hb⟩
 |n+1,x::l,b,W,h,hb=>by
  obtain⟨O,W⟩:=W.cons;rw[dQ]at h;have J:=x.aV;unfold el;simp only;rw[ao (fun q=>by have:=O.name q.1;omega)];have I:(if x.ah=1\/x.ah=6 then b.set (ce c.am x.name) true else b).length=c.am.length:=by split<;>simp[hb]
  obtain⟨V,Y,m⟩:=zN n x.a8 _ O.cL.1 ac I;obtain⟨Z,U,z⟩:=zN n x.bA V O.cL.2 ac m;obtain⟨M,C,L⟩:=zN n l Z W ac z;exact⟨M,by rw[Y,cQ,U,cQ,C],L⟩
theorem Kr{c:Cx}{np:Nat}{k:Int}{a:qp}:∀(m i:Nat) (s:Bd),LI c np s->IsT s.l 1 k->(∀y∈a,IsT s.l 1 y)->a.length=c.am.length->i+m=c.am.length->∃r,l7 k a m i s=some r/\LI c np r/\r.l.length<=s.l.length+m
 |0,i,s,h,_,_,_,_=>⟨s,rfl,h,az _⟩
 |m+1,i,s,h,hk,ha,hl,hi=>by
  have C:=h.vl;have o:i<a.length:=ac;have Z:i<s.vars.length:=ac;unfold l7;rw[bc o,cQ,bc Z,cQ];obtain⟨cz,M,U⟩:=uy h hk (ha _ (dU o)) (h.v _ (dU Z)) (.inl rfl);have lv:=eQ k a[i] s.vars[i] s;obtain⟨r,e,Y,V⟩:=Kr m (i+1) { (bM k a[i] s.vars[i] s).2 with vars:=(bM k a[i] s.vars[i] s).2.vars.set i (bM k a[i] s.vars[i] s).1} (cz.setV (fun y W=>by
   rcases wu W with W|rfl
   .exact cz.v y W
   .exact M) (by rw[jv];exact cz.vl)) (hk.le lv.le.l) (fun y W=>(ha y W).le lv.le.l) hl ac
  exact⟨r,e,Y,by simp only at V;omega⟩
theorem Ks{c:Cx}{np:Nat}{k:Nat}(z:k<=15):∀(m:qu) (j:Nat) (s:Bd),LI c np s->j+m.length<=15->LI c np (gY (16*(k:Int)+1) m j s)/\(gY (16*(k:Int)+1) m j s).l.length<=s.l.length+m.length
 |[],j,s,h,_=>⟨h,az _⟩
 |w::m,j,s,h,hj=>by
  rw[cy]at hj;have V:(16*(k:Int)+1+j).tmod 16=1+j:=by
   rw[J1 ac];omega
  obtain⟨cz,M,U⟩:=jz h (n:=⟨3,16*(k:Int)+1+j,[]⟩) (J8 ac ac) (by split<;>decide) (k0 _ _ aZ je aE aZ aZ aZ aZ);rw[V,ao ac]at M;unfold gY;obtain⟨Z,Y⟩:=Ks z m (j+1) { (ay ⟨3,16*(k:Int)+1+j,[]⟩ s).2 with vars:=(ay ⟨3,16*(k:Int)+1+j,[]⟩ s).2.vars.set w (ay ⟨3,16*(k:Int)+1+j,[]⟩ s).1} (cz.setV (fun y W=>by
   rcases wu W with W|rfl
   .exact cz.v y W
   .exact M) (by rw[jv];exact cz.vl)) ac
  exact⟨Z,by rw[cy];simp only at Y⊢;omega⟩
theorem Kt{c:Cx}{np:Nat}{lp k:Int}{old:qp}{q:Nd}:∀(m:qu) (j:Nat) (s:Bd),LI c np s->IsT s.l 3 lp->s.l[lp.toNat]?=some q->IsT s.l 1 k->(∀y∈old,IsT s.l 1 y)->(∀w∈m,w<old.length)->1<=j->((j+m.length:Nat):Int)<=nO q.aj.length->j+m.length<=16 ->
 LI c np (fL lp k old m j s)/\(fL lp k old m j s).l.length<=s.l.length+2*m.length
 |[],j,s,h,_,_,_,_,_,_,_,_=>⟨h,az _⟩
 |w::m,j,s,h,hlp,hq,hk,ho,hw,hj,hlv,h16=>by
  rw[cy]at hlv h16;obtain⟨cz,M,o⟩:=jz h (n:=⟨25,j,[lp]⟩) (J9 hlp hq ac ac) (by split<;>decide) (k0 _ _ aZ je aE aZ aZ aZ aZ);rw[ao ac]at M;have Z:=cR ⟨25,j,[lp]⟩ s;have C:=hw w eL;have I:old.getD w 0∈old:=by rw[fY,bc C];exact dU C
  obtain⟨dW,U,n3⟩:=uy cz (hk.le Z.le.l) M ((ho _ I).le Z.le.l) (.inl rfl);have V:=Z.trans (eQ k (ay ⟨25,j,[lp]⟩ s).1 (old.getD w 0) (ay ⟨25,j,[lp]⟩ s).2);unfold fL;simp only[];generalize bM k (ay ⟨25,j,[lp]⟩ s).1 (old.getD w 0) (ay ⟨25,j,[lp]⟩ s).2=z at *;have Y:z.2.l[lp.toNat]?=some q:=by
   obtain⟨t,O⟩:=V.le.l;rw[<-O,kC,hq];have:=hlp.hi;have:=hlp.lo;omega
  obtain⟨L,J⟩:=Kt (q:=q) (lp:=lp) (k:=k) (old:=old) m (j+1) {z.2 with vars:=z.2.vars.set w z.1} (dW.setV (fun y W=>by
   rcases wu W with W|rfl
   .exact dW.v y W
   .exact U) (by rw[jv];exact dW.vl)) (hlp.le V.le.l) Y (hk.le V.le.l) (fun y W=>(ho y W).le V.le.l) (fun y W=>hw y (fR _ W)) ac ac ac
  exact⟨L,by rw[cy];simp only at J⊢;omega⟩
def V1(b:qF):(dT b).length<=b.length:=by
 have:=zn (fun i=>b.getD i false) (List.range b.length)
 rwa [List.length_range]at this
def C0(c:Cx)(np n:Nat):Prop:=∀x s,SOk c x->2*x.sz<n->LI c np s->s.loops+dM x<=16->∃r,l8 c n x s=some r/\LI c np r/\r.loops<=s.loops+dM x/\r.l.length<=s.l.length+64*x.sz
def wz(c:Cx)(np n:Nat):Prop:=∀l s,zar c l->2*dQ l<n->LI c np s->s.loops+dN l<=16->∃r,eD c n l s=some r/\LI c np r/\r.loops<=s.loops+dN l/\r.l.length<=s.l.length+64*dQ l
def C1(c:Cx)(np n:Nat):Prop:=∀x s,SOk c x->x.ah=4->2*x.sz<=n->LI c np s->s.loops+dM x<=16->∃r,mR c n x s=some r/\LI c np r/\r.loops<=s.loops+dM x/\r.l.length<=s.l.length+64*x.sz
def V2(hc:zag c){np:Nat}(IS:wz c np n):C1 c np (n+1):=fun x s hx hk hsz h hw=>by
 have hs:=x.aV;have hw1:=Gb x;rw[aB hk]at hw1;have hv:=hx.value (.inr (.inr (.inr (.inl hk))));unfold mR;obtain⟨r,hr,W,p2,p3⟩:=nX hc n x.value {s with loops:=s.loops+1} hv ac (h.dv _);have lr:=dm c n _ _ _ hr;have hrn:r.2.loops=s.loops+1:=lr.n;obtain⟨b,hb,hbl⟩:=zN n x.a8 (List.replicate r.2.vars.length false) hx.cL.1 ac (by rw[p6];exact W.vl);rw[hr,cQ,hb,cQ];simp only[];have hwl:=V1 b;have hnl:=hc.nl;have V:∀i∈dT b,i<r.2.vars.length:=fun i J=>by have:=IT J;have:=W.vl;omega
 generalize dT b=Z at *;have hm:(16*(s.loops:Int)).tmod 16=0:=by rw[J1 ac];omega
 obtain⟨q1,q2,q3⟩:=jz W (n:=⟨3,16*(s.loops:Int),[]⟩) (J8 ac ac) (by split<;>decide) (k0 _ _ aZ je aE aZ aZ aZ aZ);rw[hm,aB rfl]at q2;have lq:=cR ⟨3,16*(s.loops:Int),[]⟩ r.2;generalize ay ⟨3,16*(s.loops:Int),[]⟩ r.2=q at *;obtain⟨u1,u2⟩:=Ks (k:=s.loops) ac Z 0 {q.2 with ab:=q.1} (q1.setS q2) ac;have lu:=ro (16*(s.loops:Int)+1) Z 0 {q.2 with ab:=q.1};generalize gY (16*(s.loops:Int)+1) Z 0 {q.2 with ab:=q.1}=u at *;have hun:u.loops=s.loops+1:=by rw[lu.2.2.2];show q.2.loops=_;rw[lq.n,hrn]
 obtain⟨t,ht,t1,t2,t3⟩:=IS x.a8 u hx.cL.1 ac u1 ac;have lt:=(md c n).2.1 _ _ _ ht;rw[ht,cQ];obtain⟨d,hd,C,d2,d3⟩:=nX hc n x.value t hv ac t1;have ld:=dm c n _ _ _ hd;rw[hd,cQ];have L:cV r.2 d.2:=(lq.le.setS q.1).trans (lu.1.trans (lt.1.trans ld.le));have Y:∀y∈r.2.vars,IsT d.2.l 1 y:=fun y O=>(W.v y O).le L.l;have ho:∀a∈Z.map fun i=>r.2.vars.getD i 0,IsT d.2.l 1 a:=fun a ha=>by
  obtain⟨i,J,rfl⟩:=lJ.1 ha;rw[fY,bc (V i J)];exact Y _ (dU _)
 have hn:∀a∈Z.map fun i=>d.2.vars.getD i 0,IsT d.2.l 1 a:=fun a ha=>by
  obtain⟨i,J,rfl⟩:=lJ.1 ha;have:=V i J;have e1:=C.vl;have e2:=W.vl;rw[fY,bc (show i<d.2.vars.length by omega)];exact C.v _ (dU _)
 have o:(r.2.ab::(Z.map fun i=>r.2.vars.getD i 0)++[d.1,d.2.ab]++Z.map fun i=>d.2.vars.getD i 0).length=2*Z.length+3:=co;obtain⟨k1,k2,k3⟩:=jz C (n:=⟨31,s.loops,r.2.ab::(Z.map fun i=>r.2.vars.getD i 0)++[d.1,d.2.ab]++Z.map fun i=>d.2.vars.getD i 0⟩) (VO (W.st.le L.l) ho d2 C.st hn aE co ac ac) aZ (k0 _ _ aZ je (by rw[o];omega) aZ aZ aZ aZ);have lk:=cR ⟨31,s.loops,r.2.ab::(Z.map fun i=>r.2.vars.getD i 0)++[d.1,d.2.ab]++Z.map fun i=>d.2.vars.getD i 0⟩ d.2;have hq:(ay ⟨31,s.loops,r.2.ab::(Z.map fun i=>r.2.vars.getD i 0)++[d.1,d.2.ab]++Z.map fun i=>d.2.vars.getD i 0⟩ d.2).2.l[(ay ⟨31,s.loops,r.2.ab::(Z.map fun i=>r.2.vars.getD i 0)++[d.1,d.2.ab]++Z.map fun i=>d.2.vars.getD i 0⟩ d.2).1.toNat]?=some ⟨31,s.loops,r.2.ab::(Z.map fun i=>r.2.vars.getD i 0)++[d.1,d.2.ab]++Z.map fun i=>d.2.vars.getD i 0⟩:=TA _ _;generalize ay ⟨31,s.loops,r.2.ab::(Z.map fun i=>r.2.vars.getD i 0)++[d.1,d.2.ab]++Z.map fun i=>d.2.vars.getD i 0⟩ d.2=k at *;have M:nO (2*Z.length+3:Nat)=((Z.length+1:Nat):Int):=B9;have k1':=k1.setV (x:=r.2.vars) (fun y O=>(Y y O).le lk.le.l) W.vl;obtain⟨f1,f2,f3⟩:=jz k1' (n:=⟨25,0,[k.1]⟩) (J9 (n:=0) k2 hq ac (by rw[o,M];omega)) aZ (k0 _ _ aZ je aE aZ aZ aZ aZ);rw[aB rfl]at f2;have lf:=cR ⟨25,0,[k.1]⟩ {k.2 with vars:=r.2.vars};have U:r.2.l<+:(ay ⟨25,0,[k.1]⟩ {k.2 with vars:=r.2.vars}).2.l:=(L.l.trans lk.le.l).trans lf.le.l;have hfv:(ay ⟨25,0,[k.1]⟩ {k.2 with vars:=r.2.vars}).2.vars=r.2.vars:=lf.v;obtain⟨cz,m2,m3⟩:=uy f1 (p2.le U) f2 (W.st.le U) (.inr rfl);have lm:=eQ r.1 (ay ⟨25,0,[k.1]⟩ {k.2 with vars:=r.2.vars}).1 r.2.ab (ay ⟨25,0,[k.1]⟩ {k.2 with vars:=r.2.vars}).2;generalize ay ⟨25,0,[k.1]⟩ {k.2 with vars:=r.2.vars}=f at *;generalize bM r.1 f.1 r.2.ab f.2=m at *;have I:k.2.l<+:m.2.l:=lf.le.l.trans lm.le.l;have hqm:m.2.l[k.1.toNat]?=some ⟨31,s.loops,r.2.ab::(Z.map fun i=>r.2.vars.getD i 0)++[d.1,d.2.ab]++Z.map fun i=>d.2.vars.getD i 0⟩:=by
  obtain⟨z,hz⟩:=I;rw[<-hz,kC,hq];have:=k2.hi;have:=k2.lo;omega
 obtain⟨z1,z2⟩:=Kt (lp:=k.1) (k:=r.1) (old:=r.2.vars) Z 1 {m.2 with ab:=m.1} (cz.setS m2) (k2.le I) hqm (p2.le (U.trans lm.le.l)) (fun y O=>(W.v y O).le (U.trans lm.le.l)) V (az _) (by rw[o,M];omega) ac;have lz:=sU k.1 r.1 r.2.vars Z 1 {m.2 with ab:=m.1};refine⟨_,rfl,z1,?_,?_⟩
 .rw[lz.2.2.2];show m.2.loops<=_;rw[lm.n,lf.n];show k.2.loops<=_;rw[lk.n,ld.n];omega
 .simp only at z2 p3 u2 f3⊢;omega
def V3(L:zag c){np:Nat}(IS:wz c np n)(IW:C1 c np n):C0 c np (n+1):=fun x s O hsz h hw=>by
 have hs:=x.aV;have hw1:=Gb x;have hkd:=O.kd;unfold l8;by_cases k1:x.ah=1
 .rw[aB k1];obtain⟨r,hr,W,V,p3⟩:=nX L n x.value s (O.value (.inl k1)) ac h;have J:=dm c n _ _ _ hr;have hn:=O.name (.inl k1);have hvl:=W.vl;rw[hr,cQ,aB ac];exact⟨_,rfl,W.setV (fun y Z=>by
   rcases wu Z with Z|rfl
   .exact W.v y Z
   .exact V) (by rw[jv];exact hvl),by show r.2.loops<=_;rw[J.n];omega,zJ⟩
 rw[ao k1];by_cases k2:x.ah=2
 .rw[aB k2];obtain⟨r,hr,W,V,p3⟩:=nX L n x.aW s (O.aW k2) ac h
  obtain⟨v,hv,q1,q2,q3⟩:=nX L n x.value r.2 (O.value (.inr (.inl k2))) ac W;have J:=dm c n _ _ _ hr;have lv:=dm c n _ _ _ hv;have I:=O.arr k2;rw[hr,cQ,hv,cQ,bc I,cQ];have ha:=L.a _ (dU I);generalize c.af[ce (c.af.map (·.name)) x.name]=ar at ha⊢;have p2':=V.le lv.le.l;obtain⟨M,a2⟩:=Kl q1 (n:=ar.len) je p2';have bC:=sR ar.len r.1 v.2;obtain⟨U,Y,b3⟩:=VU L M (p2'.le bC.le.l) (q2.le bC.le.l) I;exact⟨_,rfl,U.setS Y,by show(fK ar.len r.1 v.2).loops<=_;rw[bC.n,lv.n,J.n];omega,zJ⟩
 rw[ao k2];by_cases k3:x.ah=3
 .rw[aB k3];rw[ao ac]at hw1;obtain⟨r,hr,W,V,p3⟩:=nX L n x.value s (O.value (.inr (.inr (.inl k3)))) ac h;have J:=dm c n _ _ _ hr;have hrn:=J.n;obtain⟨a,ha,M,a2,a3⟩:=IS x.a8 r.2 O.cL.1 ac W ac;have la:=(md c n).2.1 _ _ _ ha;have hal:a.vars.length=c.am.length:=M.vl;obtain⟨b,hb,U,Y,b3⟩:=IS x.bA {a with ab:=r.2.ab,vars:=r.2.vars} O.cL.2 ac ((M.setS (W.st.le la.1.l)).setV (fun y Z=>(W.v y Z).le la.1.l) W.vl) (by show a.loops+_<=_;omega);have lb:=(md c n).2.1 _ _ _ hb;have o:a.l<+:b.l:=lb.1.l;have kb:IsT b.l 1 r.1:=(V.le la.1.l).le o;have hbl:=U.vl;obtain⟨m,hm,cz,m2⟩:=Kr (k:=r.1) (a:=a.vars) b.vars.length 0 b U kb (fun y Z=>(M.v y Z).le o) hal ac;have lm:=ui _ _ _ _ _ _ hm;rw[hr,cQ,ha,cQ,hb,cQ,hm,cQ];obtain⟨t1,t2,t3⟩:=uy cz (kb.le lm.1.l) ((M.st.le o).le lm.1.l) cz.st (.inr rfl);have lt:=eQ r.1 a.ab m.ab m;have hnl:=L.nl;refine⟨_,rfl,t1.setS t2,?_,?_⟩
  .show(bM r.1 a.ab m.ab m).2.loops<=_;rw[lt.n,lm.2.2.2];simp only at Y;omega
  .simp only at b3⊢;omega
 rw[ao k3];by_cases k4:x.ah=4
 .rw[aB k4];exact IW x s O k4 ac h hw
 rw[ao k4];by_cases k5:x.ah=5
 .rw[aB k5];obtain⟨r,hr,W,V,p3⟩:=nX L n x.value s (O.value (.inr (.inr (.inr (.inr k5))))) ac h;have J:=dm c n _ _ _ hr;rw[hr,cQ];obtain⟨U,Y,b3⟩:=VV W V;exact⟨_,rfl,U.setS Y,by show r.2.loops<=_;rw[J.n];omega,zJ⟩
 rw[ao k5];by_cases k6:x.ah=6
 .rw[aB k6];obtain⟨r,hr,W,V,p3⟩:=Kn L (n:=n) x.args s O.args ac h;obtain⟨J,hlr⟩:=sT c n _ _ _ hr;obtain⟨c1,c2⟩:=O.call k6;obtain⟨i,hi,hfe⟩:=Gi c.funcs x.to 0 c1;obtain⟨f,hfn⟩:=sP c.funcs hi;have C:dl c.funcs x.to 0=(i:Int):=by simpa using hfe
  have hn:=O.name (.inr k6);have hvl:=W.vl;have hpar:r.1.length=f.params.length:=by
   rw[hlr,c2,pS,C,ny,hfn];rfl
  rw[hr,cQ,aB ⟨c1,ac⟩];simp only[];rw[C];obtain⟨U,Y,b3⟩:=VX L W V hfn hpar;have lb:=cR ⟨30,i,r.2.ab::r.1⟩ r.2;generalize ay ⟨30,i,r.2.ab::r.1⟩ r.2=z at *;obtain⟨d1,d2,d3⟩:=VW (U.setS Y) Y;have ld:=cR ⟨24,0,[z.1]⟩ {z.2 with ab:=z.1};generalize ay ⟨24,0,[z.1]⟩ {z.2 with ab:=z.1}=w at *;refine⟨_,rfl,d1.setV (fun y Z=>?_) (by rw[jv];exact d1.vl),?_,?_⟩
  .rcases wu Z with Z|rfl
   .exact d1.v y Z
   .exact d2
  .show w.2.loops<=_;rw[ld.n];show z.2.loops<=_;rw[lb.n,J.n];omega
  .simp only at d3⊢;omega
 rw[ao k6];by_cases k7:x.ah=7
 .rw[aB k7];have ht:=O.d5 k7;have hw:er (16+x.n)=16+x.n:=pM ac ac;rw[hw];obtain⟨M,a2,a3⟩:=wy h (n:=0) je;obtain⟨U,Y⟩:=CY M (t:=16+x.n) a2 ac ac;have lb:=rm (16+x.n) (ay ⟨1,0,[]⟩ s).1 (ay ⟨1,0,[]⟩ s).2;exact⟨_,rfl,U,by rw[lb.n];show s.loops<=_;omega,ac⟩
 .omega
def V4{np:Nat}(L:C0 c np n)(m:wz c np n):wz c np (n+1):=fun l s W z h V=>by
 cases l with
 |nil=>exact⟨s,by unfold eD;rfl,h,ac,ac⟩
 |cons x l=>
  obtain⟨O,W⟩:=W.cons;rw[dQ]at z⊢;rw[dN]at V⊢;unfold eD;simp only[];obtain⟨r,hr,Z,M,J⟩:=L x s O ac h ac;obtain⟨t,Y,U,I,C⟩:=m l r W ac Z ac;rw[hr,cQ,Y];exact⟨t,rfl,U,ac,ac⟩
theorem Ku{c:Cx}(L:zag c){np:Nat}:∀n:Nat,C0 c np n/\wz c np n/\C1 c np n
 |0=>⟨fun x s _ h=>ac,fun l s _ h=>ac,fun x s O _ h=>by have:=x.aV;omega⟩
 |n+1=>by
  obtain⟨a,b,d⟩:=Ku L (np:=np) n;exact⟨V3 L b d,V4 a b,V2 L b⟩
section
variable {A:List Ar} {F:qH} {np:Nat}
def NdP.am{x:Nd}(h:NdP ⟨A,F,N⟩ np x):NdP ⟨A,F,z⟩ np x:=⟨h.op,h.aY,h.len,h.pa,h.ar,h.fn⟩
def LI.am{s:Bd}(h:LI ⟨A,F,N⟩ np s)(W:z.length=N.length):LI ⟨A,F,z⟩ np s:=⟨h.nd,h.wf,fun x O=>(h.p x O).am,h.v,h.vl.trans W.symm,h.st⟩
def LI.push{s:Bd}(h:LI ⟨A,F,N⟩ np s){x:Int}(O:IsT s.l 1 x)(Z:z.length=N.length+1):LI ⟨A,F,z⟩ np {s with vars:=s.vars++[x] }:=
 ⟨h.nd,h.wf,fun y W=>(h.p y W).am,fun y W=>by
  rcases ow.1 W with W|W
  .exact h.v y W
  .simp only[mh]at W;subst W;exact O,by
  have:=h.vl;show(s.vars++[x]).length=_;rw[em,this,Z];rfl,h.st⟩
theorem Kv(J:np<=6):∀(m k:Nat) (s:Bd) (N z:List bB),LI ⟨A,F,N⟩ np s->z.length=N.length+m->k+m<=np->LI ⟨A,F,z⟩ np (gZ m k s)/\(gZ m k s).loops=s.loops/\(gZ m k s).l.length<=s.l.length+m
 |0,k,s,N,z,h,hl,_=>⟨h.am hl,rfl,az _⟩
 |m+1,k,s,N,z,h,hl,hk=>by
  obtain⟨Z,Y,O⟩:=jz h (n:=⟨2,k,[]⟩) (VD ac ac) aZ ⟨by show 0<=(2:Int)/\(2:Int)<256;decide,zI,by show 0<=40;decide,fun _=>by show(k:Int)<np;omega,fun e=>by rcases e with e|e<;>exact absurd e (by show ¬(2:Int)=_;decide),fun e=>absurd e (by show ¬(2:Int)=30;decide)⟩;obtain⟨U,V,W⟩:=Kv J m (k+1) { (ay ⟨2,k,[]⟩ s).2 with vars:=(ay ⟨2,k,[]⟩ s).2.vars++[(ay ⟨2,k,[]⟩ s).1] } ([]::N) z (Z.push Y rfl) (by rw[cy];omega) ac;exact⟨U,V,by have I:(gZ (m+1) k s).l.length<=(ay ⟨2,k,[]⟩ s).2.l.length+m:=W;omega⟩
theorem Kw:∀(m:Nat) (s:Bd) (N z:List bB),LI ⟨A,F,N⟩ np s->z.length=N.length+m->LI ⟨A,F,z⟩ np (jP m s)/\(jP m s).loops=s.loops/\(jP m s).l.length<=s.l.length+m
 |0,s,N,z,h,hl=>⟨h.am hl,rfl,az _⟩
 |m+1,s,N,z,h,hl=>by
  obtain⟨J,Z,O⟩:=wy h (n:=0) je;obtain⟨U,V,Y⟩:=Kw m { (ay ⟨1,0,[]⟩ s).2 with vars:=(ay ⟨1,0,[]⟩ s).2.vars++[(ay ⟨1,0,[]⟩ s).1] } ([]::N) z (J.push Z rfl) (by rw[cy];omega);exact⟨U,V,by have I:(jP (m+1) s).l.length<=(ay ⟨1,0,[]⟩ s).2.l.length+m:=Y;omega⟩
def V7:LI ⟨A,F,[]⟩ np { (ay ⟨26,0,[]⟩ ⟨[],[],0,0⟩).2 with ab:=(ay ⟨26,0,[]⟩ ⟨[],[],0,0⟩).1}:=by
 obtain⟨a,b⟩:=Kh (l:=[]) (n:=⟨26,0,[]⟩) (fun i J=>by simp at J) VE aZ;refine⟨Kk List.nodup_nil,b,fun x O=>?_,(fun y W=>by cases W),rfl,a⟩;rcases(zf (l:=[]) (n:=⟨26,0,[]⟩)).1 O with O|rfl
 .cases O
 .exact k0 _ _ aZ je aE aZ aZ aZ aZ
end
structure zan (p:Pr):Prop where
 ck:jc p=0
 rg:∀f∈p.funcs,mn f.body/\ku f.value
def Kx{p:Pr}(h:jc p=0):pP p=false/\js p=true/\oI p=false/\p.funcs.any (pU p)=false/\p.funcs.any (sA p)=false:=by
 unfold jc at h;split at h
 .cases h
 split at h
 .cases h
 split at h
 .cases h
 split at h
 .cases h
 split at h
 .cases h
 rename_i a b c d e;exact⟨by simpa using a,by simpa using b,by simpa using c,by simpa using d,by simpa using e⟩
theorem zO{o:Type}{l:List o}{p:o->Bool}(h:l.any p=false){x:o}(O:x∈l):p x=false:=by
 cases e:p x with
 |false=>rfl
 |true=>rw[List.any_eq_true.2 ⟨x,O,e⟩]at h;cases h
def zan.lim{p:Pr}(h:zan p):(∀a∈p.af,1<=a.len/\a.len<=16)/\p.af.length<=4/\p.funcs.length<=8/\∀f∈p.funcs,f.params.length<=6/\f.ai.length<=8/\dN f.body<=16:=by
 have O:=(Kx h.ck).1;unfold pP at O;simp only[ig,iL]at O;obtain⟨⟨⟨Y,m⟩,I⟩,Z⟩:=O;refine⟨fun a J=>?_,ac,ac,fun f o=>?_⟩
 .have:=zO I J;unfold yx at this;simp only[ig,iL]at this;omega
 .have:=zO Z o;unfold vJ at this;simp only[ig,iL]at this;omega
def zan.cx{p:Pr}(h:zan p)(o:f∈p.funcs):zag (jQ p f):=by
 obtain⟨Y,m,I,Z⟩:=h.lim;have:=Z f o;exact⟨Y,m,I,fun g L=>(Z g L).1,by show(f.params++f.ai).length<=14;rw[em];omega⟩
def zan.body{p:Pr}(h:zan p)(o:f∈p.funcs):zar (jQ p f) f.body/\XOk (jQ p f) f.value:=by
 obtain⟨_,m,_,Z,W⟩:=Kx h.ck;unfold js at m;rw[ca,gk,gk]at m;have w:=m.2 f o;have u:=zO Z o;have b:=zO W o;unfold nI at w;unfold pU at u;unfold sA at b;simp only[ca,HV]at w u b;obtain⟨Y,V⟩:=h.rg f o;exact⟨⟨w.1.2,u.1,b,Y⟩,⟨w.2,u.2,V⟩⟩
theorem Ky{p:Pr}(h:zan p)(hn:2*p.sz<n)(o:f∈p.funcs):
 ∃s v,eD (jQ p f) n f.body (ki f)=some s/\dE (jQ p f) n f.value s=some v/\LI (jQ p f) f.params.length v.2/\IsT v.2.l 1 v.1/\v.2.loops<=16/\v.2.l.length<=64*p.sz:=by
 obtain⟨_,_,_,Z⟩:=h.lim;obtain⟨z,l2,l3⟩:=Z f o;obtain⟨C,Y⟩:=h.body o;have hc:=h.cx o;have hfz:=se o;have hpz:p.sz=1+j6 p.af+j5 p.funcs:=rfl;have hfs:f.sz=1+f.name.length+eN f.params+eN f.ai+dQ f.body+f.value.sz:=rfl;have e0:=V7 (A:=p.af) (F:=p.funcs) (np:=f.params.length);obtain⟨J,V,O⟩:=Kv z f.params.length 0 _ [] f.params e0 aE ac;obtain⟨U,M,L⟩:=Kw f.ai.length _ f.params (f.params++f.ai) J (by rw[em]);have hs:LI (jQ p f) f.params.length (ki f):=U;have hs2:(ki f).loops=0:=M.trans V;have hs3:(ki f).l.length<=15:=by
  have e1:(ki f).l.length<=(gZ f.params.length 0 { (ay ⟨26,0,[]⟩ ⟨[],[],0,0⟩).2 with ab:=(ay ⟨26,0,[]⟩ ⟨[],[],0,0⟩).1}).l.length+f.ai.length:=L;have e2:(gZ f.params.length 0 { (ay ⟨26,0,[]⟩ ⟨[],[],0,0⟩).2 with ab:=(ay ⟨26,0,[]⟩ ⟨[],[],0,0⟩).1}).l.length<=1+f.params.length:=O;omega
 obtain⟨s,I,m,q3,q4⟩:=(Ku hc (np:=f.params.length) n).2.1 f.body (ki f) C ac hs ac;obtain⟨v,W,r2,r3,r4⟩:=nX hc n f.value s Y ac m;have lv:=dm _ n _ _ _ W;exact⟨s,v,I,W,r2,r3,by rw[lv.n];omega,ac⟩
def LI.fin{np:Nat}{s:Bd}(h:LI c np s)(W:s.l.length<2^36)(M:s.loops<=16):Fin s:=by
 refine⟨fun x O=>?_,W,ac⟩;have hp:=h.p x O;obtain⟨i,J,e⟩:=Aa O;have L:s.l[i]?=some x:=by rw[bc J,e]
 have V:=h.wf i J;rw[yS J]at V;obtain⟨t,z,_,_⟩:=SH L V;refine⟨hp.op,hp.aY,fun k m=>?_,by have:=hp.len;omega⟩;have:=yR z k m;omega
def V8{p:Pr}(h:zan p)(z:p.sz<2^30)(M:2*p.sz<n):CV p n:=fun f o=>by
 obtain⟨s,v,Z,m,I,Y,W,C⟩:=Ky h M o;exact⟨s,v,Z,m,I.fin ac W⟩
structure zat (p:Pr):Prop where
 sz:p.sz<2^30
 rg:jc p=0->∀f∈p.funcs,mn f.body/\ku f.value
def kw(p:Pr):Un×Int:=(sQ p (2*p.sz+1)).getD (⟨[],[]⟩,0)
theorem Kz{p:Pr}(h:zan p){n:Nat}(M:2*p.sz<n):∀(l:qH) (J:List Gr),(∀f∈l,f∈p.funcs)->∃r,oS p n l J=some r
 |[],J,_=>⟨_,rfl⟩
 |f::l,J,hl=>by
  obtain⟨s,v,Z,Y,_⟩:=Ky h M (hl f eL);rw[oS,ze,Z,cQ,Y,cQ,cQ];split
  .exact⟨_,rfl⟩
  .exact Kz h M l _ fun g L=>hl g (fR _ L)
theorem zat.bS{p:Pr}(h:zat p):sQ p (2*p.sz+1)=some ((kw p).1,(kw p).2):=by
 have:∃r,sQ p (2*p.sz+1)=some r:=by
  unfold sQ;split
  .rename_i c;exact Kz ⟨c,h.rg c⟩ (ct _) _ _ fun f o=>o
  .exact⟨_,rfl⟩
 obtain⟨r,hr⟩:=this;rw[kw,hr];rfl
noncomputable def KA:En:=⟨11,true,dA zat ey fun p=>.aO [.agg (kw p).1.cells,.int .i64 (kw p).2]⟩
def V9(ρ:Nat->Int):eu prog ρ KA:=eY fun p hp=>Vl ρ p (n:=2*p.sz+1) (by have:=hp.sz;omega) (fun hc=>V8 ⟨hc,hp.rg hc⟩ hp.sz (ct _)) hp.bS
def nY:Nat->qn
 |0=>[97,114,114,97,121,32,97,32,51,59,32,102,117,110,99,32,102,40,120,44,32,121,41,32,123,32]
 |i+1=>((nY i++[111,117,116,32,120,32,47,32,40,121,32,43,32])++[UInt8.ofNat (49+i)])++[41,59,32]
def mo(d:Nat):Nat->qn
 |0=>nY d
 |i+1=>((mo d i++[97,91,120,32,43,32])++[UInt8.ofNat (49+i)])++[93,32,61,32,121,59,32]
def nZ(d n:Nat):qn:=mo d n++[114,101,116,117,114,110,32,48,59,32,125]
mutual
def uA:Ex->Bool
 | .mk _ n _ _ C=>(decide (-9223372036854775808<=n)&&decide (n<9223372036854775808))&&wA C
def wA:qC->Bool
 |[]=>true
 |e::es=>uA e&&wA es
end
mutual
theorem zP:∀x:Ex,uA x=true->ku x
 | .mk _ n _ _ C,h=>by
   rw[uA,ca,ca,ji,ji]at h;rw[ku];exact⟨h.1,C2 C h.2⟩
theorem C2:∀x:qC,wA x=true->ml x
 |[],_=>by rw[ml];trivial
 |e::es,h=>by
  rw[wA,ca]at h;rw[ml];exact⟨zP e h.1,C2 es h.2⟩
end
mutual
def C3:St->Bool
 | .mk _ _ _ _ a v m U V=>uA a&&(uA v&&(wA m&&(uB U&&uB V)))
def uB:qy->Bool
 |[]=>true
 |x::l=>C3 x&&uB l
end
mutual
theorem Wa:∀x:St,C3 x=true->ux x
 | .mk _ _ _ _ a v m U V,h=>by
   rw[C3]at h;simp only[ca]at h;rw[ux];exact⟨zP a h.1,zP v h.2.1,C2 m h.2.2.1,zQ U h.2.2.2.1,zQ V h.2.2.2.2⟩
theorem zQ:∀x:qy,uB x=true->mn x
 |[],_=>by rw[mn];trivial
 |x::l,h=>by
  rw[uB,ca]at h;rw[mn];exact⟨Wa x h.1,zQ l h.2⟩
end
def C4(p:Pr):Bool:=decide (p.sz<2^30)&&p.funcs.all fun f=>uB f.body&&uA f.value
def Wb{p:Pr}(h:C4 p=true):zat p:=by
 unfold C4 at h;rw[ca,ji,gk]at h;exact⟨h.1,fun _ f o=>by
  have:=h.2 f o;rw[ca]at this;exact⟨zQ _ this.1,zP _ this.2⟩⟩
def mp(c:Int)(l:qz):Nat:=(l.filter fun x=>decide (x.op=27)&&decide (x.aY=c)).length
def ru(l:qz):Nat:=(l.filter fun x=>decide (x.op=28)).length
def KB(d n:Nat):Bool:=decide ((nZ d n).length<=20000)&&((jG 20001 (nZ d n) 0).isSome&&match j8 (jy (nZ d n)) 500 500 0 [] []with
 |none=>false
 |some p=>C4 p&&(decide ((kw p).2=0)&&match (kw p).1.funcs with
  |[g]=>decide (g.aP.length<1000)&&(decide (mp 1 g.aP=d)&&(decide (mp 2 g.aP=n)&&decide (ru g.aP=n)))
  |_=>false))
def Wc:((List.range 5).all fun d=>(List.range 5).all fun n=>KB d n)=true:=aF
structure GdQ (d n:Nat) (p:Pr) (g:Gr):Prop where
 sc:sZ (nZ d n)
 tp:j8 (jy (nZ d n)) 500 500 0 [] []=some p
 lw:zat p
 e0:(kw p).2=0
 fs:(kw p).1.funcs=[g]
 ln:g.aP.length<1000
 c1:mp 1 g.aP=d
 c2:mp 2 g.aP=n
 c3:ru g.aP=n
def Wd{d:Nat}(hd:d<5)(M:n<5):∃p g,GdQ d n p g:=by
 have h:=gk.1 (gk.1 Wc d (lI.2 hd)) n (lI.2 M);unfold KB at h;rw[ca,ca,ji]at h;obtain⟨o,m,I⟩:=h;split at I
 .cases I
 rename_i p hp;rw[ca,ca,ji]at I;obtain⟨Z,W,C⟩:=I;split at C
 .rename_i g L;simp only[j0]at C;exact⟨p,g,⟨o,DR.1 m⟩,hp,Wb Z,W,L,C.1,C.2.1,C.2.2.1,C.2.2.2⟩
 .cases C
end
end Go.Proofs.Ytbflaciihaijgaa
