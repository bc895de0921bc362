/- Parts: SnC, K4, K5, G2, G2r, G2s, Mu1, NdM, K6, G2p. -/
import Derived.Test.YtpbcimfiofmoeaaGreatRCK
set_option linter.unusedSimpArgs false
set_option linter.unusedVariables false
set_option linter.unusedSectionVars false
set_option linter.defProp false
set_option maxHeartbeats 32000000
namespace Go.Ab
set_option maxRecDepth 20000
open Go
theorem ql{P:Prop}(h:P:=by first|rfl|trivial):P:=h
theorem Fa{P:Prop}(h:P:=by rw[List.drop_zero,List.length_take];omega):P:=h
theorem Lu{P:Prop}(h:P:=by rw[List.flatten_append,List.length_append];omega):P:=h
theorem yj{P:Prop}(h:P:=by rw[<- hHb];rfl):P:=h
theorem vX{P:Prop}(h:P:=by (try simp only[zea]);omega):P:=h
theorem Fc{P:Prop}(h:P:=by have:=(hkv.lt hk).1;omega):P:=h
theorem vY{P:Prop}(h:P:=by simp[zfw];omega):P:=h
theorem Bg{P:Prop}(h:P:=by unfold sN;(repeat' split)<;>omega):P:=h
theorem vZ{P:Prop}(h:P:=by rw[zft ac ac];omega):P:=h
theorem Fe{P:Prop}(h:P:=by simp only[zdX,Nat.reduceBEq, *];exact zfQ (n:=cnt) ac ac):P:=h
def Bh:=@List.take_zero
def yk:=@List.length_pos_iff
def Lw:=@List.drop_length_add_append
end Go.Ab
namespace Go.Proofs.YtpbcimfiofmoeaaGreat
set_option maxRecDepth 20000
open Go Go.Ab
section
def tySnC.tyF:=ad @eI (ad @dC (ad @en (@jP)))
open tySnC
noncomputable def Bi:{c:SC // aS 45 (Tryz.f67.body.getD .skip)=c}:=by
 refine⟨?_,?_⟩;rotate_left
 .simp only[Tryz.f67,cj,aS,zen,zel,zeu,zev,Nat.blt,Nat.ble];rfl
def pD(x:Nd×Nd):List AV:=[.agg x.1.cells,.agg x.2.cells]
theorem Ly(x y:Nd×Nd)(h:pD x=pD y):x=y:=by
 simp only[pD,eD,AV.agg.injEq,aX]at h;exact n1 (vA h.1) (vA h.2)
def v9(x:Nd×Nd):Prop:=x.1.kids.length<2^60
theorem Lz{s w:List Int}(hl:s.length=w.length){i:Nat}(hi:i<s.length):decide (s.drop i=w.drop i)=(decide (s.getD i 0=w.getD i 0)&&decide (s.drop (i+1)=w.drop (i+1))):=by
 rw[jl hi,jl (l:=w) ac];rw[dM,dM,br hi,br (by omega:i<w.length)];simp only[cj,eD,Bool.decide_and]
theorem LA(ρ:Nat->Int)(x:Nd×Nd)(hx:v9 x):bV Tryz.prog ρ 67 (pD x) (.bool (decide (x.1=x.2))):=zfq fit (pls:=pls) (l:=[]) trivial (.cons (.agg (vz _)) (.cons (.agg (vz _)) .nil)) (.bool _) (by
 obtain⟨⟨o1,i1,s⟩,⟨o2,i2,w⟩⟩:=x;have hw:=jm 67;unfold v9 at hx;rw[pD];simp only[Nd.cells]at hx⊢;have hd:decide ((⟨o1,i1,s⟩:Nd)=⟨o2,i2,w⟩)=(decide (o1=o2)&&decide (i1=i2)&&decide (s=w)):=by
  simp[Bool.decide_and,vB]
 rw[hd];by_cases hl:w.length=s.length
 .clear hd;refine zed (M:=45) (rs:=[.tmp 4]) (hw.call _) hw.ice hw.froz Tryz.func67 rfl rfl Bi.2 rfl ?_;dsimp only[Bi,zd8,Nat.reduceAdd];repeat' (first
   |(apply au ?_;clear hK K)|apply Ry.o ?_|(apply bS (fun hg hgp=>?_) (fun hg hgp=>?_)<;>try(cases hg;done))|(apply aV (fun hb hbp=>?_) (fun hb hbp=>?_)<;>try(cases hb;done))|apply am ?_|(apply zdQ fun K hK=>?_)|(apply zdP 6 [(1,11),(4,11),(6,11),(9,11)] fun K hK=>?_)|(apply zdU ?_;try intro _)|(apply zdV ?_ ?_<;>clear hK K)|apply aH ?_|apply aA ?_|apply zdR ?_|apply aB ?_|apply zdT ?_)
  all_goals first
   |(refine⟨zdZ,_,fo,?_⟩;try simp only[zdY]
     simp_all;done)
   |skip
  refine zeL [2,3] [0,1] 5 s.length (fun i E H=>decide (s=w)=decide (s.drop i=w.drop i)) eE aK ?_;rintro i E H2 hi hcE hrH hnH hsI hJ;(try simp only[zec,zeb,aX,zdX,zd2,Nat.reduceBEq,Nat.reduceAdd,Nat.reduceLeDiff,tyF, *]at hcE);(try simp only[zec,zeb,aX,zdX,zd2,Nat.reduceBEq,Nat.reduceAdd,Nat.reduceLeDiff,tyF, *]at hrH);(try simp only[zea,zef,zeB,bT,Nat.reduceAdd]at hnH);have hB0:(0 == H2.next)=false:=zeq ac;have hC0:(H2.next == 0)=false:=zeq ac;have hB1:(1 == H2.next)=false:=zeq ac;have hC1:(H2.next == 1)=false:=zeq ac;repeat' (first
   |(apply au ?_;clear hK K)|apply Rx.o ?_|(apply aT (fun hb hbp=>?_) (fun hb hbp=>?_)<;>try(cases hb;done))|apply am ?_|(apply zdQ fun K hK=>?_)|(apply zdP 6 [(1,11),(4,11),(6,11),(9,11)] fun K hK=>?_)|(apply zdU ?_;try intro _)|(apply zdV ?_ ?_<;>clear hK K)|apply aH ?_|apply aA ?_|apply zdR ?_|apply aB ?_|apply zdT ?_)
  .have hlt:i<s.length:=by simpa using hb
   have hgx:s[i]?=some s[i]:=br hlt;have hgy:w[i]?=some (w[i]' ac):=br ac;have hdr:=Lz hl.symm hlt;rw[dM,dM,hgx,hgy]at hdr;simp only[cj]at hdr;generalize s[i]=x at *;generalize w[i]' ac=y at *;repeat' (first
    |(apply au ?_;clear hK K)|apply Rx.o ?_|(apply aT (fun hb hbp=>?_) (fun hb hbp=>?_)<;>try(cases hb;done))|apply am ?_|(apply zdQ fun K hK=>?_)|(apply zdP 6 [(1,11),(4,11),(6,11),(9,11)] fun K hK=>?_)|(apply zdU ?_;try intro _)|(apply zdV ?_ ?_<;>clear hK K)|apply aH ?_|apply aA ?_|apply zdR ?_|apply aB ?_|apply zdT ?_)
   .exact eK
   .all_goals (refine⟨zdZ,_,zd6,?_⟩;try simp only[zdY])
    rw[hJ,hdr];simp_all
   .refine⟨ac,zd7,zd7,eN,tV,?_⟩;rw[hJ,hdr];simp_all
  .repeat' (first
    |(apply au ?_;clear hK K)|apply Rx.o ?_|(apply aT (fun hb hbp=>?_) (fun hb hbp=>?_)<;>try(cases hb;done))|apply am ?_|(apply zdQ fun K hK=>?_)|(apply zdP 6 [(1,11),(4,11),(6,11),(9,11)] fun K hK=>?_)|(apply zdU ?_;try intro _)|(apply zdV ?_ ?_<;>clear hK K)|apply aH ?_|apply aA ?_|apply zdR ?_|apply aB ?_|apply zdT ?_)
   all_goals (refine⟨zdZ,_,zd6,?_⟩;try simp only[zdY])
   rw[hJ,show i=s.length by simp at hb;omega,gR,<-hl,gR];simp_all
 .have hne:¬s=w:=fun e=>hl lZ;have hl2:¬(s.length:Int)=w.length:=ac;clear hd;refine zed (M:=45) (rs:=[.tmp 4]) (hw.call _) hw.ice hw.froz Tryz.func67 rfl rfl Bi.2 rfl ?_;dsimp only[Bi,zd8,Nat.reduceAdd];repeat' (first
   |(apply au ?_;clear hK K)|apply Ry.o ?_|(apply bS (fun hg hgp=>?_) (fun hg hgp=>?_)<;>try(cases hg;done))|(apply aV (fun hb hbp=>?_) (fun hb hbp=>?_)<;>try(cases hb;done))|apply am ?_|(apply zdQ fun K hK=>?_)|(apply zdP 6 [(1,11),(4,11),(6,11),(9,11)] fun K hK=>?_)|(apply zdU ?_;try intro _)|(apply zdV ?_ ?_<;>clear hK K)|apply aH ?_|apply aA ?_|apply zdR ?_|apply aB ?_|apply zdT ?_)
  all_goals
   refine⟨zdZ,_,fo,?_⟩;try simp only[zdY]
   rw[pd hne,DY])
noncomputable def Bj:En:=⟨67,false,cy v9 pD fun x=>.bool (decide (x.1=x.2))⟩
theorem Z3(ρ:Nat->Int):zeO Tryz.prog ρ Bj:=zeV fun x hx=>LA ρ x hx
theorem Z4{l:List En}(hl:∀ar,zeN l 67 ar=Bj.sp ar)(a b:Nd)(h:a.kids.length<2^60)(H:Hp):zd5 Tryz.prog (zdW pls l) 67 [.agg a.cells,.agg b.cells] H fun v H'=>v=.bool (decide (a=b))/\H'=H:=
 zeJ (enc:=pD) (ok:=v9) (out:=fun x=>.bool (decide (x.1=x.2))) Ly (x:=(a,b)) (hl _) h
end
section
def tyK4.tyF:=ad @dC (ad @eI (ad @ge (ad @en (@jP))))
open tyK4
noncomputable def LB:{c:SC // aS 13 (Tryz.f66.body.getD .skip)=c}:=by
 refine⟨?_,?_⟩;rotate_left
 .simp only[Tryz.f66,cj,aS,zen,zel,zeu,zev,Nat.blt,Nat.ble];rfl
noncomputable def LC:{c:SC // aS 20 (Tryz.f39.body.getD .skip)=c}:=by
 refine⟨?_,?_⟩;rotate_left
 .simp only[Tryz.f39,cj,aS,zen,zel,zeu,zev,Nat.blt,Nat.ble];rfl
noncomputable def LD:{c:SC // aS 18 (Tryz.f41.body.getD .skip)=c}:=by
 refine⟨?_,?_⟩;rotate_left
 .simp only[Tryz.f41,cj,aS,zen,zel,zeu,zev,Nat.blt,Nat.ble];rfl
theorem Z5(ρ:Nat->Int)(op:Int):bV Tryz.prog ρ 66 [.int .i64 op] (.int .i64 (vW op)):=zfq fit (pls:=pls) (l:=[]) trivial (.cons (.int _ _) .nil) (.int _ _) (by
 have hw:=jm 66;refine zed (M:=13) (rs:=[.tmp 2]) (hw.call _) hw.ice hw.froz Tryz.func66 rfl rfl LB.2 rfl ?_;dsimp only[LB,zd8,Nat.reduceAdd];repeat' (first
  |(apply au ?_;clear hK K)|apply Rx.o ?_|(apply bQ (fun hg hgp=>?_) (fun hg hgp=>?_)<;>try(cases hg;done))|(apply aT (fun hb hbp=>?_) (fun hb hbp=>?_)<;>try(cases hb;done))|apply am ?_|(apply zdQ fun K hK=>?_)|apply zdR ?_|apply aB ?_)
 all_goals
  refine⟨zdZ,_,fo,?_⟩;try simp only[zdY]
  simp_all[vW])
noncomputable def Bk:En:=⟨66,false,cy (fun _=>True) (fun n:Int=>[.int .i64 n]) fun n=>.int .i64 (vW n)⟩
theorem Z6(ρ:Nat->Int):zeO Tryz.prog ρ Bk:=zeV fun n _=>Z5 ρ n
theorem Z7{l:List En}(hl:∀ar,zeN l 66 ar=Bk.sp ar)(n:Int)(H:Hp):zd5 Tryz.prog (zdW pls l) 66 [.int .i64 n] H fun v H'=>v=.int .i64 (vW n)/\H'=H:=
 zeJ (enc:=fun n:Int=>[.int .i64 n]) (ok:=fun _=>True) (out:=fun n=>.int .i64 (vW n)) xZ (x:=n) (hl _) trivial
theorem Z8(ρ:Nat->Int)(x:Int×Int):bV Tryz.prog ρ 39 (pq x) (.int .i64 (pB x.1 x.2)):=zfq fit (pls:=pls) (l:=[Bk]) ⟨Z6 ρ,trivial⟩ (.cons (.int _ _) (.cons (.int _ _) .nil)) (.int _ _) (by
 obtain⟨op,k⟩:=x;have hw:Plain (zdW pls [Bk]) 39:=zfv (fun _=>rfl) rfl;rw[pq];simp only[];refine zed (M:=20) (rs:=[.tmp 4]) (hw.call _) hw.ice hw.froz Tryz.func39 rfl rfl LC.2 rfl ?_;dsimp only[LC,zd8,Nat.reduceAdd];repeat' (first
  |(apply au ?_;clear hK K)|apply Rx.o ?_|(apply eu ?_;first|refine Rx.k (Z7 (fun _=>rfl) _ _) ?_)|apply eJ ?_|(apply bQ (fun hg hgp=>?_) (fun hg hgp=>?_)<;>try(cases hg;done))|(apply aT (fun hb hbp=>?_) (fun hb hbp=>?_)<;>try(cases hb;done))|apply am ?_|(apply zdQ fun K hK=>?_)|apply zdR ?_|apply aB ?_)
 all_goals
  refine⟨zdZ,_,fo,?_⟩;try simp only[zdY]
  simp_all[pB])
noncomputable def Fh:En:=⟨39,false,cy (fun _=>True) pq fun x=>.int .i64 (pB x.1 x.2)⟩
theorem Z9(ρ:Nat->Int):zeO Tryz.prog ρ Fh:=zeV fun n _=>Z8 ρ n
theorem zaa{l:List En}(hl:∀ar,zeN l 39 ar=Fh.sp ar)(a b:Int)(H:Hp):zd5 Tryz.prog (zdW pls l) 39 [.int .i64 a,.int .i64 b] H fun v H'=>v=.int .i64 (pB a b)/\H'=H:=
 zeJ (enc:=pq) (ok:=fun _=>True) (out:=fun x=>.int .i64 (pB x.1 x.2)) Kv (x:=(a,b)) (hl _) trivial
def sK(x:List Nd×Nd):List AV:=[zfe x.1,.agg x.2.cells]
theorem zw5(x y:List Nd×Nd)(h:sK x=sK y):x=y:=Ka x y h
theorem zjz(ρ:Nat->Int)(x:List Nd×Nd)(hx:zfi x.1):bV Tryz.prog ρ 41 (sK x) (.bool (qj x.1 x.2)):=zfq fit (pls:=pls) (l:=[Bj]) ⟨Z3 ρ,trivial⟩ (.cons (mR _) (.cons (.agg (vz _)) .nil)) (.bool _) (by
 obtain⟨l,n⟩:=x;obtain⟨hl1,hl2⟩:=hx;have hw:Plain (zdW pls [Bj]) 41:=zfv (fun _=>rfl) rfl;rw[sK];simp only[]at hl1 hl2⊢;refine zed (M:=18) (rs:=[.tmp 4]) (hw.call _) hw.ice hw.froz Tryz.func41 rfl rfl LD.2 rfl ?_;dsimp only[LD,zd8,Nat.reduceAdd];repeat' (first
  |(apply au ?_;clear hK K)|apply Rx.o ?_|(apply aT (fun hb hbp=>?_) (fun hb hbp=>?_)<;>try(cases hb;done))|apply am ?_|(apply zdQ fun K hK=>?_)|(apply zdP 4 [(3,5),(4,5)] fun K hK=>?_)|(apply zdU ?_;try intro _)|(apply zdV ?_ ?_<;>clear hK K)|apply aH ?_|apply aA ?_|apply zdR ?_|apply aB ?_|apply zdT ?_)
 refine zeL [0,3] [0] 5 l.length (fun i E H=>qj l n=qj (l.drop i) n) eE aK ?_;rintro i E H2 hi hcE hrH hnH hsI hJ;(try simp only[zec,zeb,aX,zdX,zd2,Nat.reduceBEq,Nat.reduceAdd,Nat.reduceLeDiff,tyF, *]at hcE);(try simp only[zec,zeb,aX,zdX,zd2,Nat.reduceBEq,Nat.reduceAdd,Nat.reduceLeDiff,tyF, *]at hrH);(try simp only[zea,zef,zeB,bT,Nat.reduceAdd]at hnH);have hB0:(0 == H2.next)=false:=zeq ac;have hC0:(H2.next == 0)=false:=zeq ac;repeat' (first
  |(apply au ?_;clear hK K)|apply Rx.o ?_|(apply aT (fun hb hbp=>?_) (fun hb hbp=>?_)<;>try(cases hb;done))|apply am ?_|(apply zdQ fun K hK=>?_)|(apply zdP 4 [(3,5),(4,5)] fun K hK=>?_)|(apply zdU ?_;try intro _)|(apply zdV ?_ ?_<;>clear hK K)|apply aH ?_|apply aA ?_|apply zdR ?_|apply aB ?_|apply zdT ?_)
 .have hlt:i<l.length:=by simpa using hb
  have hgx:l[i]?=some l[i]:=br hlt;have hkb:l[i].kids.length<2^60:=by have:=hl2 _ (dX hlt);omega
  have hdr:qj (l.drop i) n=(decide (l[i]=n)||qj (l.drop (i+1)) n):=ki;generalize l[i]=m at *;repeat' (first
   |(apply au ?_;clear hK K)|apply Rx.o ?_|(apply eu ?_;first|refine Rx.k (Z4 (fun _=>rfl) _ _ hkb _) ?_)|(apply aT (fun hb hbp=>?_) (fun hb hbp=>?_)<;>try(cases hb;done))|apply am ?_|(apply zdQ fun K hK=>?_)|(apply zdP 4 [(3,5),(4,5)] fun K hK=>?_)|(apply zdU ?_;try intro _)|(apply zdV ?_ ?_<;>clear hK K)|apply aH ?_|apply aA ?_|apply zdR ?_|apply aB ?_|apply zdT ?_)
  .exact eK
  .all_goals (refine⟨zdZ,_,zd6,?_⟩;try simp only[zdY])
   rw[hJ,hdr];simp_all
  .refine⟨ac,zd7,zd7,eN,oZ,?_⟩;rw[hJ,hdr];simp_all
 .repeat' (first
   |(apply au ?_;clear hK K)|apply Rx.o ?_|(apply aT (fun hb hbp=>?_) (fun hb hbp=>?_)<;>try(cases hb;done))|apply am ?_|(apply zdQ fun K hK=>?_)|(apply zdP 4 [(3,5),(4,5)] fun K hK=>?_)|(apply zdU ?_;try intro _)|(apply zdV ?_ ?_<;>clear hK K)|apply aH ?_|apply aA ?_|apply zdR ?_|apply aB ?_|apply zdT ?_)
  all_goals (refine⟨zdZ,_,zd6,?_⟩;try simp only[zdY])
  rw[hJ,show i=l.length by simp at hb;omega,gR];rfl)
noncomputable def Fk:En:=⟨41,true,cy (fun x=>zfi x.1) sK fun x=>.bool (qj x.1 x.2)⟩
theorem zw6(ρ:Nat->Int):zeO Tryz.prog ρ Fk:=zeV fun x hx=>zjz ρ x hx
end
section
def tyK5.tyF:=ad @dC (ad @ge (ad @en (ad @jP (@ri))))
open tyK5
noncomputable def LF:{c:SC // aS 39 (Tryz.f38.body.getD .skip)=c}:=by
 refine⟨?_,?_⟩;rotate_left
 .simp only[Tryz.f38,cj,aS,zen,zel,zeu,zev,Nat.blt,Nat.ble];rfl
noncomputable def rx:En:=⟨13,true,cy zfi ud fun l=>zeG (zew l l.length)⟩
theorem Fl(ρ:Nat->Int):zeO Tryz.prog ρ rx:=zeV fun l hl=>Y8 ρ l hl
theorem Fm{tb:List En}(ht:∀ar,zeN tb 13 ar=rx.sp ar)(l:List Nd)(hl:zfi l)(H:Hp):zd5 Tryz.prog (zdW pls tb) 13 [zfe l] H fun v H'=>v=zeG (zew l l.length)/\H'=H:=
 zeJ (enc:=ud) (ok:=zfi) (out:=fun l=>zeG (zew l l.length)) Kl (x:=l) (ht _) hl
structure OfX where
 l:List Nd
 t:Int
 n:Int
def ry(x:OfX):List AV:=[zfe x.l,.int .i64 x.t,.int .i64 x.n]
theorem zw7(x y:OfX)(h:ry x=ry y):x=y:=by
 obtain⟨a,b,c⟩:=x;obtain⟨a',b',c'⟩:=y;simp only[ry,eD,AV.int.injEq,lH]at h;rw[vK h.1,h.2.1,h.2.2]
def Bl(x:OfX):Prop:=zfi x.l/\0<(kq (zew x.l x.l.length) x.t x.l.length).length
theorem zaf(ρ:Nat->Int)(x:OfX)(hx:Bl x):bV Tryz.prog ρ 38 (ry x) (.int .i64 (sJ x.l x.t x.n)):=zfq fit (pls:=pls) (l:=[rx,lN]) ⟨Fl ρ,vV ρ,trivial⟩ (.cons (mR _) (.cons (.int _ _) (.cons (.int _ _) .nil))) (.int _ _) (by
 obtain⟨l,t,n⟩:=x;obtain⟨hl,hpos⟩:=hx;have hl1:=hl.1;have hw:Plain (zdW pls [rx,lN]) 38:=zfv (fun _=>rfl) rfl;have hkeep:(zdW pls [rx,lN]).keep 38=false:=rfl;rw[ry,sJ];simp only[]at hl hpos hl1⊢;have hsl:=zgC l l.length;have krs:∀H,zd5 Tryz.prog (zdW pls [rx,lN]) 13 [zfe l] H fun v H'=>v=zeG (zew l l.length)/\H'=H:=fun H=>Fm (fun _=>rfl) l hl H;generalize zew l l.length=s at *;refine zed (M:=39) (rs:=[.tmp 6]) (hw.call _) hw.ice hw.froz Tryz.func38 rfl rfl LF.2 rfl ?_;dsimp only[LF,zd8,Nat.reduceAdd];repeat' (first
  |(apply au ?_;clear hK K)|apply Rx.o ?_|(apply eu ?_;first|refine Rx.k (krs _) ?_)|(apply aT (fun hb hbp=>?_) (fun hb hbp=>?_)<;>try(cases hb;done))|apply am ?_|(apply zdQ fun K hK=>?_)|apply aA ?_|apply zdR ?_|apply aB ?_|apply zdT ?_)
 refine zeL [0,1,2,6,7] [] 9 l.length (fun i E H=>∃v,E.at 8=v/\ze0 H v (kq s t i) 0) eE ⟨.nilS,eE,.inl ⟨rfl,rfl⟩⟩ ?_;rintro i E H2 hi hcE hrH hnH hsI ⟨v,k8,hv⟩;(try simp only[zec,zeb,aX,zdX,zd2,Nat.reduceBEq,Nat.reduceAdd,Nat.reduceLeDiff,tyF, *]at hcE);(try simp only[zec,zeb,aX,zdX,zd2,Nat.reduceBEq,Nat.reduceAdd,Nat.reduceLeDiff,tyF, *]at hrH);(try simp only[zea,zef,zeB,bT,Nat.reduceAdd]at hnH);repeat' (first
  |(apply au ?_;clear hK K)|apply Rx.o ?_|(apply aT (fun hb hbp=>?_) (fun hb hbp=>?_)<;>try(cases hb;done))|apply am ?_|(apply zdQ fun K hK=>?_)|apply aA ?_|apply zdR ?_|apply aB ?_|apply zdT ?_)
 .have hlt:i<l.length:=by simpa using hb
  have hgx:s[i]?=some (s.getD i 0):=Ej;have hst:kq s t (i+1)=if s.getD i 0=t then kq s t i++[(i:Int)]else kq s t i:=rfl
  have hal:=EY s t i;have hvb:ze0 (H2.alloc (.cells [.int .i64 i] 0 true)) v (kq s t i) 0:=hv.keep (cZ _) fun k hk=>by rw[zd1,ah Ef]
  obtain⟨v5,H5,a5,s5,n5,f5,o5⟩:=pi (r:=H2.next) (imm:=0) (i:Int) hvb (dE _) eR ac;have n5':H2.next<=H5.next:=pm
  clear n5 f5 o5 hvb hsl;generalize s.getD i 0=x at *;repeat' (first
   |(apply au ?_;clear hK K)|apply Rx.o ?_|(apply aT (fun hb hbp=>?_) (fun hb hbp=>?_)<;>try(cases hb;done))|apply am ?_|(apply zdQ fun K hK=>?_)|apply aA ?_|apply zdR ?_|apply aB ?_|apply zdT ?_)
  .refine⟨ac,zd7,zd7,eN,oZ,?_⟩;exact⟨v5,eE,by rw[hst,aE gC];exact .inr s5⟩
  .refine⟨ac,zd7,zd7,eN,oZ,?_⟩;exact⟨v,eE,by rw[hst,ah gC];exact hv⟩
 .have hie:i=l.length:=by simp at hb;omega
  rw[hie]at hv;have hal:=EY s t l.length;generalize kq s t l.length=a at *;rcases hv with⟨_,rfl⟩|hv
  .simp at hpos
  obtain⟨r,imm,rfl,hg,_⟩:=hv;have hr:=zfP (n:=n) (m:=a.length) ac ac;have hne:(a.length:Int)≠0:=ac;obtain⟨p,hp⟩:=gG hr.1;rw[hp]at hr;have e1:IntKind.wrap .i64 ((a.length:Int)-1)=((a.length-1:Nat):Int):=vZ;have e2:IntKind.wrap .i64 (((a.length-1:Nat):Int)-p)=((a.length-1-p:Nat):Int):=vZ;have hil:a.length-1-p<a.length:=ac;have hix:zeE Tryz.prog 23 (.sl r 0 a.length 1) (.int .i64 ((a.length-1-p:Nat):Int))=some (.ptr r (a.length-1-p)):=by rw[mL Tryz.underlying23 gN hil];simp
  have hld:zfC Tryz.prog H2 3 (.ptr r (a.length-1-p))=some (.int .i64 (a.getD (a.length-1-p) 0)):=by rw[r0 Tryz.underlying3 rfl hg,fF,dM,br hil];rfl
  repeat' (first
   |(apply au ?_;clear hK K)|apply Rx.o ?_|(apply eu ?_;first|refine Rx.k (zfZ (fun _=>rfl) _ _ hne _) ?_)|(apply aT (fun hb hbp=>?_) (fun hb hbp=>?_)<;>try(cases hb;done))|apply am ?_|(apply zdQ fun K hK=>?_)|apply aA ?_|apply zdR ?_|apply aB ?_|apply zdT ?_)
  all_goals (refine⟨zdZ,_,zd6,?_⟩;try simp only[zdY])
  rw[hp,gH])
noncomputable def Fo:En:=⟨38,true,cy Bl ry fun x=>.int .i64 (sJ x.l x.t x.n)⟩
theorem zw8(ρ:Nat->Int):zeO Tryz.prog ρ Fo:=zeV fun x hx=>zaf ρ x hx
end
section
def tyG2.tyF:=ad @dC (ad @en (@tO))
open tyG2
def fJ(S:Nat->Prop)(n:Nat)(H:Hp)(v w:AV):Prop:=∃u,zeS S n H v u/\∀m,n<=m->cP m u=w
def zeA(S:Nat->Prop)(n:Nat)(H:Hp)(cs ws:List AV):Prop:=∃us,dk (zeS S n H) cs us/\∀m,n<=m->us.map (cP m)=ws
theorem zeA.frame{S S':Nat->Prop}(hS:∀k,S k->S' k){n:Nat}{H H':Hp}{v w:List AV}(h:zeA S n H v w)(hn:H.next<=H'.next)(hf:∀k,S k->k<H.next->kQ (H.get k) (H'.get k)):zeA S' n H' v w:=by
 obtain⟨u,h1,h2⟩:=h;exact⟨u,h1.mono fun a b k=>k.frame hS hn hf,h2⟩
theorem zeA.keep{S S':Nat->Prop}(hS:∀k,S k->S' k){n:Nat}{H H':Hp}{v w:List AV}(h:zeA S n H v w)(hn:H.next<=H'.next)(hf:∀k,S k->k<H.next->H'.get k=H.get k):zeA S' n H' v w:=h.frame hS hn fun k h1 h2=>.inl (hf k h1 h2).symm
theorem fJ.up{S:Nat->Prop}{n m:Nat}{H:Hp}{v w:AV}(h:fJ S n H v w)(hm:n<=m):fJ S m H v w:=by
 obtain⟨u,h1,h2⟩:=h;exact⟨u,h1.up hm,fun k hk=>h2 k ac⟩
theorem zeA.up{S:Nat->Prop}{n m:Nat}{H:Hp}{v w:List AV}(h:zeA S n H v w)(hm:n<=m):zeA S m H v w:=by
 obtain⟨u,h1,h2⟩:=h;exact⟨u,h1.mono fun a b k=>k.up hm,fun k hk=>h2 k ac⟩
theorem zeA.nil{S:Nat->Prop}{n:Nat}{H:Hp}:zeA S n H [] []:=⟨[],trivial,fun _ _=>rfl⟩
theorem zeA.cons{S:Nat->Prop}{n:Nat}{H:Hp}{v w:AV}{cs ws:List AV}(h:fJ S n H v w)(k:zeA S n H cs ws):zeA S n H (v::cs) (w::ws):=by
 obtain⟨u,h1,h2⟩:=h;obtain⟨us,h3,h4⟩:=k;exact⟨u::us,⟨h1,h3⟩,fun m hm=>by rw[eF,h2 m hm,h4 m hm]⟩
theorem zeA.append{S:Nat->Prop}{n:Nat}{H:Hp}:∀{a b c d:List AV},zeA S n H a b->zeA S n H c d->zeA S n H (a++c) (b++d)
 |a,b,c,d,⟨u,h1,h2⟩,⟨v,h3,h4⟩=>⟨u++v,h1.append h3,fun m hm=>by rw[pU,h2 m hm,h4 m hm]⟩
theorem fJ.flat{S:Nat->Prop}{n:Nat}{H:Hp}{v:AV}(h:Jw v)(hk:∀m,cP m v=v):fJ S (n+1) H v v:=⟨v,nV h,fun m _=>hk m⟩
theorem fJ.int{S:Nat->Prop}{n:Nat}{H:Hp}(k:IntKind)(x:Int):fJ S (n+1) H (.int k x) (.int k x):=.flat ⟨.int _ _,trivial⟩ fun m=>by cases m<;>rfl
theorem fJ.str{S:Nat->Prop}{n:Nat}{H:Hp}(s:List UInt8):fJ S (n+1) H (.str s) (.str s):=.flat ⟨.str _,trivial⟩ fun m=>by cases m<;>rfl
theorem fJ.nilS{S:Nat->Prop}{n:Nat}{H:Hp}:fJ S (n+1) H .nilS (.lst []):=⟨.nilS,nV ⟨.nilS,trivial⟩,fun m hm=>by
 obtain⟨m,rfl⟩:∃k,m=k+1:=⟨m-1,ac⟩;rfl⟩
theorem fJ.lst0{S:Nat->Prop}{n:Nat}{H:Hp}:fJ S (n+1) H (.lst []) (.lst []):=.flat ⟨.lst aK,trivial⟩ fun m=>by cases m<;>rfl
def fb(S:Nat->Prop)(n:Nat)(H:Hp)(z:Nat):List (List AV)->List (List AV)->Prop:=dk fun a b=>a.length=z/\zeA S n H a b
theorem LG{S:Nat->Prop}{n z:Nat}{H:Hp}:∀{a b:List (List AV)},fb S n H z a b->∃u,dk (dk (zeS S n H)) a u/\(∀m,n<=m->u.map (List.map (cP m))=b)/\∀x∈a,x.length=z
 |[],[],_=>⟨[],trivial,fun _ _=>rfl,aK⟩
 |x::a,y::b,⟨⟨hz,v,h1,h2⟩,h⟩=>by
  obtain⟨u,h3,h4,h5⟩:=LG (a:=a) (b:=b) h;exact⟨v::u,⟨h1,h3⟩,fun m hm=>by rw[eF,h2 m hm,h4 m hm],fun q hq=>by
   rcases iu.1 hq with rfl|hq
   .exact hz
   .exact h5 q hq⟩
theorem fJ.rows{S:Nat->Prop}{n:Nat}{H:Hp}{r z imm:Nat}{tip:Bool}{a b:List (List AV)}(hS:S r)(hr:r<H.next)(hg:H.get r=some (.cells a.flatten imm tip))(hi:imm<=a.flatten.length)(h:fb S n H z a b):fJ S (n+1) H (.sl r 0 a.length z) (.lst b):=by
 obtain⟨u,h1,h2,h3⟩:=LG h;refine⟨.lst u,zeS.rows hS hr hg hi h3 h1,fun m hm=>?_⟩;obtain⟨m,rfl⟩:∃k,m=k+1:=⟨m-1,ac⟩;show AV.lst (u.map fun row=>row.map (cP m))=_;rw[<-h2 m ac]
def rz:=@fJ.rows
theorem fb.frame{S S':Nat->Prop}(hS:∀k,S k->S' k){n z:Nat}{H H':Hp}{a b:List (List AV)}(h:fb S n H z a b)(hn:H.next<=H'.next)(hf:∀k,S k->k<H.next->H'.get k=H.get k):fb S' n H' z a b:=dk.mono (fun x y k=>⟨k.1,k.2.keep hS hn hf⟩) h
theorem fb.up{S:Nat->Prop}{n m z:Nat}{H:Hp}{a b:List (List AV)}(h:fb S n H z a b)(hm:n<=m):fb S m H z a b:=dk.mono (fun x y k=>⟨k.1,k.2.up hm⟩) h
theorem zeA.strs{S:Nat->Prop}{n:Nat}{H:Hp}(s:List UInt8):zeA S (n+1) H [.str s] [.str s]:=.cons (.str s) .nil
theorem fb.strs{S:Nat->Prop}{n:Nat}{H:Hp}:∀l:List (List UInt8),fb S (n+1) H 1 (l.map fun s=>[AV.str s]) (l.map fun s=>[AV.str s])
 |[]=>trivial
 |a::l=>⟨⟨rfl,zeA.strs a⟩,fb.strs l⟩
theorem yl{S:Nat->Prop}{n:Nat}{H:Hp}(k nn o:Int)(s:List UInt8){kv:AV}{es:List Ex}(h:fJ S (n+1) H kv (.lst (es.map Ex.cells))):zeA S (n+1) H [.int .i64 k,.int .i64 nn,.str s,.int .i64 o,kv] (Ex.mk k nn s o es).cells:=by
 rw[oV];exact .cons (.int _ _) (.cons (.int _ _) (.cons (.str _) (.cons (.int _ _) (.cons h .nil))))
theorem sM{S:Nat->Prop}{n:Nat}{H:Hp}(k nn o:Int)(s:List UInt8):zeA S (n+1) H [.int .i64 k,.int .i64 nn,.str s,.int .i64 o,.nilS] (Ex.mk k nn s o []).cells:=yl k nn o s .nilS
def zes:List Int->Int×List Int
 |[]=>(0,[])
 |a::l=>(a,l)
def zah(lo:Nat)(H:Hp)(r:Nat)(v:AV)(L:List Int):Prop:=(v=.lst []/\L=[])\/∃b off cs imm,v=.sl b off L.length 1/\H.get b=some (.cells cs imm true)/\cs.drop off=L.map (fun n=>AV.int .i64 n)/\b≠r/\b<lo
def fZ(lo:Nat)(H:Hp)(r:Nat)(L:List Int)(c:Int):Prop:=r<lo/\lo<=H.next/\∃v,H.get r=some (.cells [v,.int .i64 c] 0 true)/\zah lo H r v L
theorem fZ.keep{lo:Nat}{H H':Hp}{r:Nat}{L:List Int}{c:Int}(h:fZ lo H r L c)(hn:H.next<=H'.next)(hg:∀k,k<lo->H'.get k=H.get k):fZ lo H' r L c:=by
 obtain⟨h0,h00,v,h1,h2⟩:=h;refine⟨h0,ac,v,by rw[hg _ h0];exact h1,?_⟩;rcases h2 with h2|⟨b,off,cs,imm,e1,e2,e3,e4,e5⟩
 .exact .inl h2
 .exact .inr ⟨b,off,cs,imm,e1,by rw[hg _ e5];exact e2,e3,e4,e5⟩
noncomputable def wa:{c:SC // aS 25 (Tryz.f40.body.getD .skip)=c}:=by
 refine⟨?_,?_⟩;rotate_left
 .simp only[Tryz.f40,cj,aS,zen,zel,zeu,zev,Nat.blt,Nat.ble];rfl
theorem ym{cfg:Cfg}(hw:Plain cfg 40){lo:Nat}{H:Hp}{r:Nat}{L:List Int}{c:Int}(h:fZ lo H r L c)(hL:L.length<2^60):
 zd5 Tryz.prog cfg 40 [.ptr r 0] H fun v H'=>v=.int .i64 (zes L).1/\fZ lo H' r (zes L).2 c/\H'.next=H.next/\∀k,k≠r->H'.get k=H.get k:=by
 obtain⟨h0,h00,v,h1,h2⟩:=h;rcases h2 with⟨rfl,rfl⟩|⟨b,off,cs,imm,rfl,e2,e3,e4,e5⟩
 .refine zed (M:=25) (rs:=[.tmp 2]) (hw.call _) hw.ice hw.froz Tryz.func40 rfl rfl wa.2 rfl ?_;dsimp only[wa,zd8,Nat.reduceAdd];repeat' (first
   |(apply au ?_;clear hK K)|apply Rx.o ?_|(apply aT (fun hb hbp=>?_) (fun hb hbp=>?_)<;>try(cases hb;done))|apply am ?_|(apply zdQ fun K hK=>?_)|apply zdR ?_|apply aB ?_)
  all_goals (refine⟨zdZ,_,zd6,?_⟩;try simp only[zdY])
  exact⟨ql,⟨h0,h00,_,h1,.inl ⟨rfl,rfl⟩⟩,ql,fun _ _=>ql⟩
 .cases L with
  |nil=>
   refine zed (M:=25) (rs:=[.tmp 2]) (hw.call _) hw.ice hw.froz Tryz.func40 rfl rfl wa.2 rfl ?_;dsimp only[wa,zd8,Nat.reduceAdd];repeat' (first
    |(apply au ?_;clear hK K)|apply Rx.o ?_|(apply aT (fun hb hbp=>?_) (fun hb hbp=>?_)<;>try(cases hb;done))|apply am ?_|(apply zdQ fun K hK=>?_)|apply zdR ?_|apply aB ?_)
   all_goals (refine⟨zdZ,_,zd6,?_⟩;try simp only[zdY])
   exact⟨ql,⟨h0,h00,_,h1,.inr ⟨b,off,cs,imm,rfl,e2,e3,e4,e5⟩⟩,ql,fun _ _=>ql⟩
  |cons a L=>
   have hg:cs[off]?=some (.int .i64 a):=by
    have:=lX (fun l=>l[0]?) e3;simpa using this
   have hd:cs.drop (off+1)=L.map (fun n=>AV.int .i64 n):=by
    have:=lX (List.drop 1) e3;rw[Ci]at this;simpa using this
   have hpos:0<L.length+1:=ac;have hsl:zfW Tryz.prog 23 (.sl b off (L.length+1) 1) (some (.int .i64 1)) none=if L=[]then some (.lst [])else some (.sl b (off+1) L.length 1):=by
    simp only[zfW,Tryz.underlying23,gN,zfL];by_cases hn:L=[]
    .subst hn;rfl
    .have:0<L.length:=yk.2 hn;rw[ah hn,aE ⟨ac,aM _,trivial⟩,ah ac];rfl
   have hne:¬(((L.length+1:Nat):Int)=0):=ac;have hrb:(b == r)=false:=zeq e4;refine zed (M:=25) (rs:=[.tmp 2]) (hw.call _) hw.ice hw.froz Tryz.func40 rfl rfl wa.2 rfl ?_;dsimp only[wa,zd8,Nat.reduceAdd];by_cases hn:L=[]
   .subst hn;have hsl':zfW Tryz.prog 23 (.sl b off 1 1) (some (.int .i64 1)) none=some (.lst []):=hsl;have hne':¬(((1:Nat):Int)=0):=aY;have hp':0<1:=aY;clear hsl hne hpos;repeat' (first
     |(apply au ?_;clear hK K)|apply Ry.o ?_|apply cD ?_|(apply aV (fun hb hbp=>?_) (fun hb hbp=>?_)<;>try(cases hb;done))|apply am ?_|(apply zdQ fun K hK=>?_)|apply zdR ?_|apply aB ?_)
    all_goals (refine⟨zdZ,_,zd6,?_⟩;try simp only[zdY])
    refine⟨ql,⟨h0,h00,_,ft,.inl ⟨rfl,rfl⟩⟩,ql,fun k hk=>jg⟩
   .rw[ah hn]at hsl;repeat' (first
     |(apply au ?_;clear hK K)|apply Ry.o ?_|apply cD ?_|(apply aV (fun hb hbp=>?_) (fun hb hbp=>?_)<;>try(cases hb;done))|apply am ?_|(apply zdQ fun K hK=>?_)|apply zdR ?_|apply aB ?_)
    all_goals (refine⟨zdZ,_,zd6,?_⟩;try simp only[zdY])
    refine⟨ql,⟨h0,h00,_,by rw[bz,aE rfl];rfl,.inr ⟨b,off+1,cs,imm,rfl,by rw[bz,ah e4];exact e2,hd,e4,e5⟩⟩,ql,fun k hk=>jg⟩
end
section
theorem zeA.keep2{S S':Nat->Prop}{n:Nat}{H H':Hp}{v w:List AV}(h:zeA S n H v w)(hS:∀k,k<H.next->S k->S' k)(hn:H.next<=H'.next)(hf:∀k,S k->k<H.next->H'.get k=H.get k):zeA S' n H' v w:=by
 obtain⟨u,h1,h2⟩:=h;exact⟨u,h1.mono fun a b k=>k.frame2 hS hn fun q h3 h4=>.inl (hf q h3 h4).symm,h2⟩
theorem fb.keep2{S S':Nat->Prop}{n z:Nat}{H H':Hp}{a b:List (List AV)}(h:fb S n H z a b)(hS:∀k,k<H.next->S k->S' k)(hn:H.next<=H'.next)(hf:∀k,S k->k<H.next->H'.get k=H.get k):fb S' n H' z a b:=dk.mono (fun x y k=>⟨k.1,k.2.keep2 hS hn hf⟩) h
theorem fb.len{S:Nat->Prop}{n z:Nat}{H:Hp}:∀{a b:List (List AV)},fb S n H z a b->∀x∈a,x.length=z
 |[],[],_,x,hx=>by simp at hx
 |y::a,w::b,h,x,hx=>by
  rcases iu.1 hx with rfl|hx
  .exact h.1.1
  .exact fb.len h.2 x hx
def ze4(S:Nat->Prop)(n:Nat)(H:Hp)(z:Nat)(v:AV)(ws:List (List AV)):Prop:=
 (v=.nilS/\ws=[])\/∃q imm rows,v=.sl q 0 rows.length z/\S q/\q<H.next/\H.get q=some (.cells rows.flatten imm true)/\imm<=rows.flatten.length/\fb (fun k=>S k/\k≠q) n H z rows ws
theorem ze4.rd{S:Nat->Prop}{n:Nat}{H:Hp}{z:Nat}{v:AV}{ws:List (List AV)}(h:ze4 S n H z v ws):fJ S (n+1) H v (.lst ws):=by
 rcases h with⟨rfl,rfl⟩|⟨q,imm,rows,rfl,h1,h2,h3,h4,h5⟩
 .exact .nilS
 .exact .rows h1 h2 h3 h4 (h5.frame (fun k hk=>hk.1) (aM _) fun _ _ _=>rfl)
theorem ze4.up{S:Nat->Prop}{n m:Nat}{H:Hp}{z:Nat}{v:AV}{ws:List (List AV)}(h:ze4 S n H z v ws)(hm:n<=m):ze4 S m H z v ws:=by
 rcases h with h|⟨q,imm,rows,e,h1,h2,h3,h4,h5⟩
 .exact .inl h
 .exact .inr ⟨q,imm,rows,e,h1,h2,h3,h4,fb.up h5 hm⟩
theorem ze4.keep{S S':Nat->Prop}{n:Nat}{H H':Hp}{z:Nat}{v:AV}{ws:List (List AV)}(h:ze4 S n H z v ws)(hS:∀k,k<H.next->S k->S' k)(hn:H.next<=H'.next)(hf:∀k,S k->k<H.next->H'.get k=H.get k):ze4 S' n H' z v ws:=by
 rcases h with h|⟨q,imm,rows,e,h1,h2,h3,h4,h5⟩
 .exact .inl h
 .exact .inr ⟨q,imm,rows,e,hS q h2 h1,ac,by rw[hf q h1 h2];exact h3,h4,h5.keep2 (fun k hk hq=>⟨hS k hk hq.1,hq.2⟩) hn fun k h6 h7=>hf k h6.1 h7⟩
theorem ze4.one{S:Nat->Prop}{n:Nat}{H:Hp}{z:Nat}{v:AV}{ws:List (List AV)}(h:ze4 S n H z v ws):AV.one v=true/\v.cells=[v]:=by
 rcases h with⟨rfl,rfl⟩|⟨q,imm,rows,rfl,_⟩<;>exact⟨rfl,rfl⟩
theorem ze4.len{P:Program}{t e:TypeId}(ht:P.underlying t=some (.slice e)){S:Nat->Prop}{n:Nat}{H H':Hp}{z:Nat}{v:AV}{ws:List (List AV)}(h:ze4 S n H z v ws):zeR P H' t v=some (.int .i64 ws.length):=by
 rcases h with⟨rfl,rfl⟩|⟨q,imm,rows,rfl,h1,h2,h3,h4,h5⟩
 .exact zgl ht
 .rw[zgg ht,show rows.length=ws.length from dk.len h5]
theorem ze4.push{P:Program}{t e:TypeId}{z b:Nat}{zz:List AV}(ht:P.underlying t=some (.slice e))(hs:zer P e=some z)(hb:zfg P e=some b)(hz:ze5 P e=some zz)(hzz:zz.length=z)(hsrc:zfT P t=true)
 {lo n:Nat}{H:Hp}{v:AV}{ws:List (List AV)} (h:ze4 (fun k=>lo<=k) n H z v ws) (hlo:lo<=H.next) {r imm:Nat}{row w:List AV} (hg:H.get r=some (.cells row imm true)) (hrow:row.length=z) (hone:row.all AV.one=true)
 (hw:zeA (fun k=>lo<=k/\∀o m z',v≠.sl k o m z') n H row w) (hb1:(ws.length+1)*b<=zfw) (hb2:ws.length+1<=zfw) :
 ∃v' H',zeZ P false H t t v (.sl r 0 1 z)=some (v',H')/\ze4 (fun k=>lo<=k) n H' z v' (ws++[w])/\H'.next=H.next+1/\(∀k,k<H.next->(∀o m z',v≠.sl k o m z')->H'.get k=H.get k)/\∀k o m z',v'=.sl k o m z'->k=H.next:=by
 have hx:zfz H z (.sl r 0 1 z)=some (1,row):=by
  have:=tI (H:=H) (r:=r) (o:=0) (n:=1) (z:=z) (s:=z) hg Fa;rw[this,gD,iq ac]
 rcases h with⟨rfl,rfl⟩|⟨q,imm',rows,rfl,h1,h2,h3,h4,h5⟩
 .refine⟨.sl H.next 0 1 z,H.alloc (.cells row 0 true),append_nil ht hs hb hz hsrc hx hone hzz (by simpa using hb1) (by simpa using hb2),.inr ⟨H.next,0,[row],rfl,hlo,cL _,by rw[zd1,aE rfl];simp,aK,⟨⟨hrow,hw.keep2 (fun k h1 h2=>⟨h2.1,ac⟩) (cZ _) fun k h1 h2=>ez⟩,trivial⟩⟩,rfl,fun k hk _=>ez,fun k o m z' e=>?_⟩;simp only[AV.sl.injEq]at e;exact e.1.symm
 .have hrl:=vD (fb.len h5);have hwl:rows.length=ws.length:=dk.len h5;have htr:gW false H z (.sl q 0 rows.length z)=H:=by
   unfold gW;simp only[h3,bT];have:Nat.blt (rows.length*z) rows.flatten.length=false:=by
    cases hb:Nat.blt (rows.length*z) rows.flatten.length with
    |false=>rfl
    |true=>rw[iW]at hb;omega
   simp only[tL,r6,this,nU]
  refine⟨.sl H.next 0 (rows.length+1) z,(H.kill q).alloc (.cells (rows.flatten++row) (imm'-0) true),?_,.inr ⟨H.next,imm'-0,rows++[row],aK,hlo,cL _,?_,Lu,?_⟩,rfl,fun k hk hno=>?_,fun k o m z' e=>?_⟩
  .simp only[zeZ,ht,hs,hb,hz,hsrc,hx,hone,htr,hzz,oR,bN,ja,h3,bT,gD,dS,bU];rw[aE ⟨by rw[hwl];exact hb1,by rw[hwl];exact hb2,ac,trivial,h4⟩]
  .show((H.kill q).alloc _).get (H.kill q).next=_
   rw[zd1,aE rfl];simp
  .have hold:∀k,k<H.next->k≠q->((H.kill q).alloc (.cells (rows.flatten++row) (imm'-0) true)).get k=H.get k:=fun k h6 h7=>by rw[zd1,ah l8,zfU,ah h7]
   refine dk.append (h5.keep2 (fun k h6 h7=>⟨h7.1,ac⟩) (cZ _) fun k h6 h7=>hold k h7 h6.2) ⟨⟨hrow,hw.keep2 (fun k h6 h7=>⟨h7.1,ac⟩) (cZ _) fun k h6 h7=>hold k h7 fun e=>h6.2 0 rows.length z lZ⟩,trivial⟩
  .rw[zd1,ah l8,zfU,ah (fun e=>hno 0 rows.length z lZ)]
  .simp only[AV.sl.injEq]at e;exact e.1.symm
theorem LH{z:Nat}{H:Hp}{rows:List (List AV)}(h:∀r∈rows,r.length=z):zfz H z (.lst rows)=some (rows.length,rows.flatten):=by
 simp only[zfz];rw[aE (by rw[jL];intro r hr;simp[h r hr])]
theorem zeA.ar{S:Nat->Prop}{n:Nat}{H:Hp}(x:Ar):zeA S (n+1) H x.cells x.cells:=.cons (.str _) (.cons (.int _ _) .nil)
theorem LJ{S:Nat->Prop}{n:Nat}{H:Hp}:∀l:List Ar,fb S (n+1) H 2 (l.map Ar.cells) (l.map Ar.cells)
 |[]=>trivial
 |a::l=>⟨⟨rfl,zeA.ar a⟩,LJ l⟩
theorem LK:∀l:List Ar,(l.map Ar.cells).flatten.all AV.one=true
 |[]=>rfl
 |a::l=>by rw[eF,kK,List.all_append,a.one,LK l];rfl
theorem zai(m:Nat)(k:IntKind)(n:Int):cP m (.int k n)=.int k n:=by cases m<;>rfl
theorem zw9{α:Type}{f:α->List AV}(h:∀m x,(f x).map (cP m)=f x)(l:List α)(m:Nat):cP m (.lst (l.map f))=.lst (l.map f):=by
 cases m with
 |zero=>rfl
 |succ m=>
  simp only[cP,u7];have:(fun row=>List.map (cP m) row) ∘ f=f:=funext fun y=>h m y;rw[this]
theorem zxa(l:List Int)(m:Nat):cP m (.lst (l.map fun n=>[AV.int .i64 n]))=.lst (l.map fun n=>[AV.int .i64 n]):=zw9 (f:=fun n:Int=>[AV.int .i64 n]) (fun m x=>by simp only[eF,kP,zai]) l m
theorem fJ.agg{S:Nat->Prop}{n:Nat}{H:Hp}{cs ws:List AV}(h:zeA S n H cs ws):fJ S (n+1) H (.agg cs) (.agg ws):=by
 obtain⟨us,h1,h2⟩:=h;refine⟨.agg us,⟨us,h1,rfl⟩,fun m hm=>?_⟩;obtain⟨m,rfl⟩:∃k,m=k+1:=⟨m-1,ac⟩;show AV.agg (us.map (cP m))=_;rw[h2 m ac]
theorem Fp{S:Nat->Prop}{n:Nat}{H:Hp}{q imm:Nat}{tip:Bool}(l:List Int)(hS:S q)(hq:q<H.next)(hg:H.get q=some (.cells (l.map fun n=>.int .i64 n) imm tip))(hi:imm<=l.length):fJ S (n+2) H (.sl q 0 l.length 1) (.lst (l.map fun n=>[.int .i64 n])):=by
 have hf:(l.map fun n=>[AV.int .i64 n]).flatten=l.map fun n=>AV.int .i64 n:=by
  clear hg hi;induction l with
  |nil=>rfl
  |cons a l ih=>rw[eF,kK,ih];rfl
 have hr:∀l:List Int,fb S (n+1) H 1 (l.map fun n=>[AV.int .i64 n]) (l.map fun n=>[AV.int .i64 n]):=fun l=>by
  induction l with
  |nil=>trivial
  |cons a l ih=>exact⟨⟨rfl,.cons (.int _ _) .nil⟩,ih⟩
 have:=rz (n:=n+1) (a:=l.map fun n=>[AV.int .i64 n]) (imm:=imm) (tip:=tip) hS hq (by rw[hf];exact hg) (by rw[hf,dy];exact hi) (hr l);rw[dy]at this;exact this
theorem Bm{cfg:Cfg}(fit:Fit Tryz.prog){ρ:Nat->Int}(hD:mG cfg.dec ρ)(hc:∀f args r,cfg.call f args=some r->bV Tryz.prog ρ f args r){g:FuncId}{args:List AV}{r:AV}{n:Nat}
 (hp:fX args) (h:zd5 Tryz.prog cfg g args zeo fun v H'=>∃m u,iceV H' m v=some u/\cP n u=r):bV Tryz.prog ρ g args r:=by
 unfold zd5 at h;obtain⟨v,H',h1,m,u,h2,h3⟩:=h;refine An n (se (m:=m) fit hD hc hp ?_) h3;unfold zd5;exact⟨v,H',h1,h2⟩
def tyMu1.tyF:=ad @eI (ad @dC (ad @eU (ad @iy (ad @gg (ad @fW (@oT))))))
open tyMu1
theorem LL{z:Nat}:∀{rows:List (List AV)}{i:Nat}{r:List AV},(∀x∈rows,x.length=z)->rows[i]?=some r->rows.flatten.drop (i*z)=r++(rows.drop (i+1)).flatten
 |[],i,r,_,e=>by simp at e
 |a::rows,0,r,h,e=>by
  simp only[nP,aQ]at e;subst e;simp
 |a::rows,i+1,r,h,e=>by
  have ha:=h a fm;have ih:=LL (rows:=rows) (i:=i) (r:=r) (fun x hx=>h x (gF _ hx)) xD;have e1:(i+1)*z=a.length+i*z:=by rw[rU,ha];omega
  rw[kK,e1,Lw,ih];rfl
theorem LM{z:Nat}{w:List AV}(hw:w.length=z):∀{rows:List (List AV)}{i:Nat},(∀x∈rows,x.length=z)->i<rows.length->splice rows.flatten (i*z) w=(rows.set i w).flatten
 |[],i,_,e=>by simp at e
 |a::rows,0,h,e=>by
  have ha:=h a fm;simp only[splice,rV,Bh,nH,bT,kK,DX];rw[zp ac,ze ac,nH]
 |a::rows,i+1,h,e=>by
  have ha:=h a fm;have ih:=LM hw (rows:=rows) (i:=i) (fun x hx=>h x (gF _ hx)) xD;simp only[splice,kK,List.set_cons_succ]at ih⊢;have e1:(i+1)*z=a.length+i*z:=by rw[rU,ha];omega
  rw[e1,List.take_length_add_append,jJ,Lw,kH,kH];rw[kH]at ih;rw[ih]
theorem LN{z:Nat}{rows:List (List AV)}{i:Nat}{r:List AV}(h:∀x∈rows,x.length=z)(e:rows[i]?=some r):ze6 z (rows.flatten.drop (i*z))=some (.agg r):=by
 have hr:=h r (lw e);rw[LL h e];unfold ze6;rw[zd ac,iq ac,aE hr]
theorem zsY{P:Program}{t e:TypeId}{z b:Nat}{zz:List AV}(ht:P.underlying t=some (.slice e))(hs:zer P e=some z)(hb:zfg P e=some b)(hz:ze5 P e=some zz)(hzz:zz.length=z)(hsrc:zfT P t=true)
 {H:Hp}{q:Nat} (hg:H.get q=some (.cells [] 0 true)) (hq:q<H.next) {rows:List (List AV)} (hr:∀x∈rows,x.length=z) (hone:rows.flatten.all AV.one=true) (hb1:rows.length*b<=zfw) (hb2:rows.length<=zfw) :
 ∃q' H',zeZ P false H t t (.sl q 0 0 z) (.lst rows)=some (.sl q' 0 rows.length z,H')/\H'.get q'=some (.cells rows.flatten 0 true)/\(q'=q\/q'=H.next)/\q'<H'.next/\H.next<=H'.next/\H'.next<=H.next+1/\∀k,k<H.next->k≠q->H'.get k=H.get k:=by
 have hx:zfz H z (.lst rows)=some (rows.length,rows.flatten):=LH hr;by_cases h0:rows=[]
 .subst h0;refine⟨q,H,?_,hg,.inl rfl,hq,aM _,cZ _,fun _ _ _=>rfl⟩;simp only[fV]at hx;simp only[zeZ,ht,hs,hb,hz,hsrc,hx,fV]
 .obtain⟨m,hm⟩:∃m,rows.length=m+1:=⟨rows.length-1,by have:=yk.2 h0;omega⟩;have htr:gW false H z (.sl q 0 0 z)=H:=by
   unfold gW;simp only[hg];have:Nat.blt (0+0*z) ([]:List AV).length=false:=by
    cases hb:Nat.blt (0+0*z) ([]:List AV).length with
    |false=>rfl
    |true=>rw[iW]at hb;simp at hb
   simp only[this,DY,nU]
  refine⟨H.next,(H.kill q).alloc (.cells rows.flatten 0 true),?_,?_,.inr rfl,cL _,cZ _,aM _,fun k hk hno=>?_⟩
  .rw[hm]at hx hb1 hb2;simp only[zeZ,ht,hs,hb,hz,hsrc,hx,hone,htr,hzz,oR,bN,ja,hg,bT,rV,List.drop_nil,dS,bU];rw[aE ⟨by simpa using hb1,by simpa using hb2,aK,trivial,aK⟩,hm];simp
  .show((H.kill q).alloc _).get (H.kill q).next=_
   rw[zd1,aE rfl]
  .rw[zd1,ah l8,zfU,ah hno]
theorem zok{P:Program}{t z q i:Nat}{tip:Bool}{H:Hp}{rows:List (List AV)}{w:List AV}(hs:zer P t=some z)(hg:H.get q=some (.cells rows.flatten 0 tip))(hz:∀x∈rows,x.length=z)(hi:i<rows.length)(hw:w.length=z)(h1:w.all AV.one=true):j5 P H t (.ptr q (i*z)) (.agg w)=some (H.set q (.cells (rows.set i w).flatten 0 tip)):=by
 have hl:=vD hz;have hb:i*z+z<=rows.flatten.length:=by
  rw[hl];have:(i+1)*z<=rows.length*z:=uX z hi;rw[rU]at this;exact this
 simp only[j5,hg,hs];show(if w.length=z/\0<=i*z/\i*z+z<=rows.flatten.length/\w.all AV.one=true then some (H.set q (.cells (splice rows.flatten (i*z) w) 0 tip))else none)=_;rw[aE ⟨hw,dE _,hb,h1⟩,LM hw hz hi]
end
section
theorem bNd(a:Int):zfy Tryz.prog 67 [(0,.int .i64 a)]=some (.agg [.int .i64 a,.int .i64 0,.nilS]):=aC
theorem zao(a b:Int):zfy Tryz.prog 67 [(0,.int .i64 a),(1,.int .i64 b)]=some (.agg [.int .i64 a,.int .i64 b,.nilS]):=aC
theorem zap(H:Hp):zfn Tryz.prog H 22 3 [(0,.agg [.int .i64 2,.int .i64 0,.nilS]),(1,.agg [.int .i64 2,.int .i64 1,.nilS]),(2,.agg [.int .i64 26,.int .i64 0,.nilS])]=some (.sl H.next 0 3 3,H.alloc (.cells [.int .i64 2,.int .i64 0,.nilS,.int .i64 2,.int .i64 1,.nilS,.int .i64 26,.int .i64 0,.nilS] 0 true)):=aC
theorem LO{α:Type}{s:List α}(h:s.length=3):∃a b c,s=[a,b,c]:=by
 match s,h with
 |[a,b,c],_=>exact⟨a,b,c,rfl⟩
theorem Bn(H:Hp){cs:List AV}(hl:cs.length=3)(ho:cs.all AV.one=true):zfn Tryz.prog H 22 1 [(0,.agg cs)]=some (.sl H.next 0 1 3,H.alloc (.cells cs 0 true)):=by
 obtain⟨a,b,c,rfl⟩:=LO hl;kernel_rfl
theorem Fq(a b c:AV):ze6 3 [a,b,c]=some (.agg [a,b,c]):=rfl
theorem zaq(H:Hp):zfn Tryz.prog H 23 5 [(0,.int .i64 23),(1,.int .i64 27),(2,.int .i64 28),(3,.int .i64 29),(4,.int .i64 24)]=some (.sl H.next 0 5 1,H.alloc (.cells [.int .i64 23,.int .i64 27,.int .i64 28,.int .i64 29,.int .i64 24] 0 true)):=aC
theorem fb.icyB{S:Nat->Prop}{n z:Nat}{H H':Hp}{a b:List (List AV)}(h:fb S n H z a b)(hn:H.next<=H'.next)(hf:∀k,S k->k<H.next->kQ (H.get k) (H'.get k)):fb S n H' z a b:=dk.mono (fun x y k=>⟨k.1,k.2.frame (fun _ q=>q) hn hf⟩) h
theorem ze4.icyB{S:Nat->Prop}{n:Nat}{H H':Hp}{z:Nat}{v:AV}{ws:List (List AV)}(h:ze4 S n H z v ws)(hn:H.next<=H'.next)(hf:∀k,S k->k<H.next->kQ (H.get k) (H'.get k)):ze4 S n H' z v ws:=by
 rcases h with h|⟨q,imm,rows,e,h1,h2,h3,h4,h5⟩
 .exact .inl h
 .have h5':=h5.icyB hn fun k hk hl=>hf k hk.1 hl;rcases hf q h1 h2 with e1|⟨cs,i,j,tip,e1,e2,e3⟩
  .exact .inr ⟨q,imm,rows,e,h1,ac,by rw[<-e1];exact h3,h4,h5'⟩
  .rw[h3]at e1;simp only[aQ,HB.cells.injEq]at e1;obtain⟨rfl,rfl,rfl⟩:=e1;exact .inr ⟨q,j,rows,e,h1,ac,e2,e3 h4,h5'⟩
theorem Bo{S:Nat->Prop}{H:Hp}(op imm:Int):zeA S 2 H [.int .i64 op,.int .i64 imm,.nilS] (Nd.mk op imm []).cells:=.cons (.int _ _) (.cons (.int _ _) (.cons .nilS .nil))
theorem LP{S:Nat->Prop}{H:Hp}{kv:AV}{kids:List Int}{lo:Nat}(op imm:Int)(hk:ze0 H kv kids lo)(hS:∀k,lo<=k->S k):zeA S 2 H [.int .i64 op,.int .i64 imm,kv] (Nd.mk op imm kids).cells:=by
 refine .cons (.int _ _) (.cons (.int _ _) (.cons ?_ .nil));rcases hk with⟨rfl,rfl⟩|⟨r,i,rfl,h2,h3,h4,h5⟩
 .exact .nilS
 .exact Fp kids (hS r h4) h5 h2 h3
def tyK6.tyF:=ad @eI (ad @dC (ad @ge (ad @en (ad @jP (ad @tO (ad @oT (ad @J3 (ad @bNd (ad @zao (ad @zap (ad @zaq (ad @mc (ad @md (ad @ri (@Fq)))))))))))))))
open tyK6
noncomputable def LQ:{c:SC // aS 147 (Tryz.f10.body.getD .skip)=c}:=by
 refine⟨?_,?_⟩;rotate_left
 .simp only[Tryz.f10,cj,aS,zen,zel,zeu,zev,Nat.blt,Nat.ble];rfl
theorem bRd(q n:Nat):zfy Tryz.prog 78 [(0,.sl q 0 n 1)]=some (.agg [.sl q 0 n 1,.int .i64 0]):=aC
theorem zas(y:OfX):(ry y).any (lJ 90)=false:=by obtain⟨l,t,n⟩:=y;rfl
theorem zat(y:List Nd×Nd):(sK y).any (lJ 90)=false:=by obtain⟨l,⟨a,b,c⟩⟩:=y;rfl
theorem zau{tb:List En}(ht:∀ar,zeN tb 38 ar=(nW Fo).sp ar)(hi:jx tb 38=true){S:Nat->Prop}{n:Nat}{H:Hp}{v:AV}{l:List Nd}(hn:n<58)(hv:ze4 S n H 3 v (l.map Nd.cells))(t m:Int)(hok:Bl ⟨l,t,m⟩):
 zd5 Tryz.prog (zdW pls tb) 38 [v,.int .i64 t,.int .i64 m] H fun w H'=>w=.int .i64 (sJ l t m)/\Icy S H H':=by
 obtain⟨us,h1,h2⟩:zeA S (n+1) H [v,.int .i64 t,.int .i64 m] (ry ⟨l,t,m⟩):=.cons hv.rd (.cons (.int _ _) (.cons (.int _ _) .nil));exact x4 (x:=(⟨l,t,m⟩:OfX)) (enc:=ry) (ok:=Bl) (out:=fun x=>.int .i64 (sJ x.l x.t x.n)) zw7 (fun ar=>by rw[ht];rfl) hi zas hok ac h1 (h2 60 ac)
theorem zav{tb:List En}(ht:∀ar,zeN tb 41 ar=(nW Fk).sp ar)(hi:jx tb 41=true){S:Nat->Prop}{n:Nat}{H:Hp}{v:AV}{l:List Nd}{cs:List AV}{x:Nd}(hn:n<57)(hv:ze4 S n H 3 v (l.map Nd.cells))(hc:zeA S n H cs x.cells)(hok:zfi l):
 zd5 Tryz.prog (zdW pls tb) 41 [v,.agg cs] H fun w H'=>w=.bool (qj l x)/\Icy S H H':=by
 obtain⟨us,h1,h2⟩:zeA S (n+1) H [v,.agg cs] (sK (l,x)):=.cons hv.rd (.cons (.agg hc) .nil);exact x4 (x:=((l,x):List Nd×Nd)) (enc:=sK) (ok:=fun x=>zfi x.1) (out:=fun x=>.bool (qj x.1 x.2)) zw5 (fun ar=>by rw[ht];rfl) hi zat hok ac h1 (h2 60 ac)
theorem fZ.icy{S:Nat->Prop}{lo:Nat}{H H':Hp}{r:Nat}{L:List Int}{c:Int}(h:fZ lo H r L c)(hI:Icy S H H')(hr:¬S r):fZ lo H' r L c:=by
 obtain⟨h0,h00,v,h1,h2⟩:=h;refine⟨h0,by rw[hI.next];exact h00,v,by rw[hI.out r hr];exact h1,?_⟩;rcases h2 with h2|⟨b,off,cs,imm,e1,e2,e3,e4,e5⟩
 .exact .inl h2
 .rcases hI.same b with e|⟨cs',i,j,tip,f1,f2,f3⟩
  .exact .inr ⟨b,off,cs,imm,e1,by rw[<-e];exact e2,e3,e4,e5⟩
  .rw[e2]at f1;simp only[aQ,HB.cells.injEq]at f1;obtain⟨rfl,rfl,rfl⟩:=f1;exact .inr ⟨b,off,cs,j,e1,f2,e3,e4,e5⟩
noncomputable def Bp:List En:=[lN,yg,x6,Fh,nW Fo,nW Fk]
theorem zxb(ρ:Nat->Int):fH Tryz.prog ρ Bp:=⟨vV ρ,Lm ρ,EI ρ,Z9 ρ,xQ (zw8 ρ),xQ (zw6 ρ),trivial⟩
def uq(l:List Int):Nat:=min l.length 14
theorem LR(l:List Int)(values:Bool){i:Nat}(hi:i<=14):zfi (zfj l values i):=by
 refine⟨?_,fun n hn=>?_⟩
 .have:=Be l values i;omega
 .have:=Bf l values i n hn;omega
def kU(n:Int):Int:=if zei n 11=0 then 1 else mZ false n
def oh(n:Int):Int:=if zei n 11=0 then mY (cq (n.tdiv 11)) n else 0
theorem zax(n:Int):0<=(bH (kU n)).1/\(bH (kU n)).1<=3:=by
 have h9:=zfP (n:=cq (n.tdiv 9)) (m:=5) ac ac;have h19:=zfP (n:=n) (m:=19) ac ac;refine⟨?_,Lq _⟩;unfold kU;split
 .decide
 .unfold mZ;split
  .obtain⟨p,hp⟩:=gG h9.1;rw[hp,gH];have hp5:p<5:=ac
   match p,hp5 with
   |0,_=>decide
   |1,_=>decide
   |2,_=>decide
   |3,_=>decide
   |4,_=>decide
  .exact EA ac ac
structure StN (l:List Int) (i:Nat) (v:AV) (H2:Hp) (op imm:Int) (kv:AV) (L:List Int) (E:aG) (H:Hp):Prop where
 k0:E.at 0=zeG l
 k1:E.at 1=.bool false
 k4:E.at 4=.nilS
 k5:E.at 5=v
 k6:E.at 6=.int .i64 i
 k7:E.at 7=.ptr (H2.next+1) 0
 k8:E.at 8=.ptr (H2.next+2) 0
 rd:fZ (H2.next+2) H (H2.next+1) L 0
 gn:H.get (H2.next+2)=some (.cells [.int .i64 op,.int .i64 imm,kv] 0 true)
 old:∀k,k<H2.next->kQ (H2.get k) (H.get k)
 nx:H2.next+3<=H.next
theorem op5{p:Nat}(h:p<5):([.int .i64 23,.int .i64 27,.int .i64 28,.int .i64 29,.int .i64 24]:List AV)[p]?=some (.int .i64 ([23,27,28,29,24].getD p 0)):=by
 match p,h with
 |0,_=>rfl
 |1,_=>rfl
 |2,_=>rfl
 |3,_=>rfl
 |4,_=>rfl
set_option maxRecDepth 100000 in
theorem zqI(ρ:Nat->Int)(l:List Int)(hl:l.length<2^63):bV Tryz.prog ρ 10 [zeG l,.bool false] (zfe (jD l false)):=Bm (n:=60) (cfg:=zdW pls Bp) fit (ly ρ) (fH.look (zxb ρ)) (.cons (zgt _) (.cons (.bool _) .nil)) (by
 have hw:Plain (zdW pls Bp) 10:=zfv (fun _=>rfl) rfl;have hkeep:(zdW pls Bp).keep 10=false:=rfl;have hc1:uq l<=l.length:=Nat.min_le_left _ _;have hc2:uq l<=14:=Nat.min_le_right _ _;have hc3:uq l=l.length\/uq l=14:=by unfold uq;omega
 have hnl:jD l false=zfj l false (uq l):=rfl;generalize uq l=cnt at *;have q7:(7:Int)≠0:=aY;have q101:(101:Int)≠0:=aY;have q1009:(1009:Int)≠0:=aY;have q9:(9:Int)≠0:=aY;have q11:(11:Int)≠0:=aY;have q5:(5:Int)≠0:=aY;refine zed (M:=147) (rs:=[.tmp 4]) (hw.call _) hw.ice hw.froz Tryz.func10 rfl rfl LQ.2 rfl ?_;dsimp only[LQ,zd8,Nat.reduceAdd];repeat' (first
  |(apply au ?_;clear hK K)|apply Rx.o ?_|apply ba ?_|(apply bQ (fun hg hgp=>?_) (fun hg hgp=>?_)<;>try(cases hg;done))|(apply aT (fun hb hbp=>?_) (fun hb hbp=>?_)<;>try(cases hb;done))|apply am ?_|(apply zdQ fun K hK=>?_)|(apply zdP 5 [(3,19),(8,19),(13,19),(15,19),(17,19)] fun K hK=>?_)|(apply zdP 10 [(3,9),(8,9)] fun K hK=>?_)|(apply zdP 15 [(1,6),(1,8),(1,9),(1,11),(4,6),(10,11)] fun K hK=>?_)|(apply zdU ?_;try intro _)|(apply zdV ?_ ?_<;>clear hK K)|apply aH ?_|apply zd9 rfl ?_|apply aA ?_|apply zdR ?_|apply aB ?_|apply zdT ?_)
 refine zeL [0,1,4] [] 6 cnt (fun i E H=>∃v,E.at 5=v/\ze4 (fun _=>True) 2 H 3 v ((zfj l false i).map Nd.cells)) eE ⟨.sl 0 0 3 3,eE,.inr ⟨0,0,[[.int .i64 2,.int .i64 0,.nilS],[.int .i64 2,.int .i64 1,.nilS],[.int .i64 26,.int .i64 0,.nilS]],rfl,trivial,by rw[zea];omega,by rw[zd1,aE ei];rfl,dE _,⟨rfl,Bo 2 0⟩,⟨rfl,Bo 2 1⟩,⟨rfl,Bo 26 0⟩,trivial⟩⟩ ?_;rintro i E H2 hi hcE hrH hnH hsI ⟨v,k5,hv⟩;(try simp only[zec,zeb,aX,zdX,zd2,Nat.reduceBEq,Nat.reduceAdd,Nat.reduceLeDiff,tyF, *]at hcE);(try simp only[zec,zeb,aX,zdX,zd2,Nat.reduceBEq,Nat.reduceAdd,Nat.reduceLeDiff,tyF, *]at hrH);(try simp only[zea,zef,zeB,bT,Nat.reduceAdd]at hnH);by_cases hic:i<cnt
 .have hi1:(i:Int)<l.length:=by omega
  have hi2:(i:Int)<14:=ac;have hgx:l[i]?=some (l.getD i 0):=Ej;have hns:zfj l false (i+1)=qk (zfj l false i) (pC (zfj l false i) false (l.getD i 0)):=rfl;have hno:=LR l false (i:=i) ac;have hnb:=E8 l false i;have hnlen:=Be l false i;have hvL:∀H:Hp,(∀k,k<H2.next->kQ (H2.get k) (H.get k))->H2.next<=H.next->ze4 (fun k=>k<H2.next) 2 H 3 v ((zfj l false i).map Nd.cells):=fun H h1 h2=>(hv.keep (S':=fun k=>k<H2.next) (fun k hk _=>hk) (aM _) fun _ _ _=>rfl).icyB h2 fun k hk _=>h1 k hk
  have hvq:∀k o m z',v=.sl k o m z'->k<H2.next:=fun k o m z' e=>by
   rcases hv with⟨rfl,_⟩|⟨q,imm,rows,rfl,e1,e2,_⟩
   .cases e
   .simp only[AV.sl.injEq]at e;rw[<-e.1];exact e2
  generalize l.getD i 0=n at *;repeat' (first
   |(apply au ?_;clear hK K)|apply Ry.o ?_|apply cD ?_|(apply bS (fun hg hgp=>?_) (fun hg hgp=>?_)<;>try(cases hg;done))|apply am ?_|(apply zdQ fun K hK=>?_)|(apply zdP 5 [(3,19),(8,19),(13,19),(15,19),(17,19)] fun K hK=>?_)|(apply zdP 10 [(3,9),(8,9)] fun K hK=>?_)|(apply zdP 15 [(1,6),(1,8),(1,9),(1,11),(4,6),(10,11)] fun K hK=>?_)|(apply zdU ?_;try intro _)|(apply zdV ?_ ?_<;>clear hK K)|apply aH ?_|apply zd9 rfl ?_|apply aA ?_|apply zdR ?_|apply aB ?_|apply zdT ?_)
  (apply aT (fun hb hbp=>?_) (fun hb hbp=>?_)<;>try(cases hb;done));have gh0:=@bRd;repeat' (first
   |(apply au ?_;clear hK K)|apply Ry.o ?_|apply cD ?_|(apply dq ?_;first|refine Rx.k (zfZ (fun _=>rfl) _ _ aY _) ?_)|(apply bS (fun hg hgp=>?_) (fun hg hgp=>?_)<;>try(cases hg;done))|apply am ?_|(apply zdQ fun K hK=>?_)|(apply zdP 5 [(3,19),(8,19),(13,19),(15,19),(17,19)] fun K hK=>?_)|(apply zdP 10 [(3,9),(8,9)] fun K hK=>?_)|(apply zdP 15 [(1,6),(1,8),(1,9),(1,11),(4,6),(10,11)] fun K hK=>?_)|(apply zdU ?_;try intro _)|(apply zdV ?_ ?_<;>clear hK K)|apply aH ?_|apply zd9 rfl ?_|apply aA ?_|apply zdR ?_|apply aB ?_|apply zdT ?_)
  .exact eK
  generalize hHb:Hp.set (Hp.alloc (Hp.alloc (Hp.alloc H2 _) _) _) _ _=Hb;have nb:Hb.next=H2.next+3:=yj
  have gb0:Hb.get H2.next=some (.cells [.int .i64 (zfB n 0),.int .i64 (zfB n 1),.int .i64 (zfB n 2)] 0 true):=by
   rw[<-hHb,bz,ah vX,zd1,ah vX,zd1,ah vX,zd1,aE rfl];rfl
  have gb1:Hb.get (H2.next+1)=some (.cells [.sl H2.next 0 3 1,.int .i64 0] 0 true):=by rw[<-hHb];simp[bz,zd1,zea]
  have hrng:=zfP (n:=n) (m:=19) ac ac;have gb2:Hb.get (H2.next+2)=some (.cells [.int .i64 (4+zei n 19),.int .i64 0,.nilS] 0 true):=by
   rw[<-hHb];simp[bz,zd1,zea];exact zft ac ac
  have ob:∀k,k<H2.next->Hb.get k=H2.get k:=fun k hk=>by rw[<-hHb,bz,ah vX,zd1,ah vX,zd1,ah vX,zd1,ah ac]
  have hrd0:fZ (H2.next+2) Hb (H2.next+1) [zfB n 0,zfB n 1,zfB n 2] 0:=⟨ac,ac,_,gb1,.inr ⟨H2.next,0,_,0,rfl,gb0,rfl,ac,ac⟩⟩;clear hHb gb0 gb1;refine vL (fun E' H'=>StN l i v H2 (mZ false n) 0 .nilS [zfB n 0,zfB n 1,zfB n 2] E' H') ?_ ?_
  .have hr5:=zfP (n:=cq (n.tdiv 9)) (m:=5) ac ac;obtain⟨p,hp⟩:=gG hr5.1;have hp5:p<5:=ac;have hg5:=op5 hp5;have hp':zei (IntKind.wrap .i64 (n.tdiv 9)) 5=p:=hp;repeat' (first
    |(apply au ?_;clear hK K)|apply Ry.o ?_|apply cD ?_|(apply dq ?_;first|refine Rx.k (zfZ (fun _=>rfl) _ _ aY _) ?_)|(apply bS (fun hg hgp=>?_) (fun hg hgp=>?_)<;>try(cases hg;done))|(apply aV (fun hb hbp=>?_) (fun hb hbp=>?_)<;>try(cases hb;done))|apply am ?_|(apply zdQ fun K hK=>?_)|(apply zdP 5 [(3,19),(8,19),(13,19),(15,19),(17,19)] fun K hK=>?_)|(apply zdP 10 [(3,9),(8,9)] fun K hK=>?_)|(apply zdP 15 [(1,6),(1,8),(1,9),(1,11),(4,6),(10,11)] fun K hK=>?_)|(apply zdU ?_;try intro _)|(apply zdV ?_ ?_<;>clear hK K)|apply aH ?_|apply zd9 rfl ?_|apply aA ?_|apply zdR ?_|apply aB ?_|apply zdT ?_)
   .have hop:mZ false n=[23,27,28,29,24].getD p 0:=by rw[mZ,aE ⟨rfl,gC⟩,hp,gH]
    refine⟨rfl,eE,eE,eE,eE,eE,eE,eE,?_,?_,?_,?_⟩
    .exact hrd0.keep jB fun k hk=>pn
    .rw[bz,aE rfl,hop]
    .intro k hk;rw[bz,ah ac,zd1,ah ac,ob k hk];exact .refl _
    .simp only[zef,zea];omega
   .have hop:mZ false n=4+zei n 19:=by rw[mZ,ah (fun h=>by have:=h.2;omega)]
    exact⟨rfl,eE,eE,eE,eE,eE,eE,eE,hrd0,by rw[hop];exact gb2,fun k hk=>by rw[ob k hk];exact .refl _,ac⟩
  clear hrd0 gb2 ob nb hrng;rintro E3 H3 ⟨k0,k1,k4,k5,k6,k7,k8,rd,gn,old,nx⟩;dsimp only[lA];repeat' (first
   |(apply au ?_;clear hK K)|apply Ry.o ?_|apply cD ?_|(apply dq ?_;first|refine Rx.k (zfZ (fun _=>rfl) _ _ aY _) ?_)|(apply bS (fun hg hgp=>?_) (fun hg hgp=>?_)<;>try(cases hg;done))|apply am ?_|(apply zdQ fun K hK=>?_)|(apply zdP 5 [(3,19),(8,19),(13,19),(15,19),(17,19)] fun K hK=>?_)|(apply zdP 10 [(3,9),(8,9)] fun K hK=>?_)|(apply zdP 15 [(1,6),(1,8),(1,9),(1,11),(4,6),(10,11)] fun K hK=>?_)|(apply zdU ?_;try intro _)|(apply zdV ?_ ?_<;>clear hK K)|apply aH ?_|apply zd9 rfl ?_|apply aA ?_|apply zdR ?_|apply aB ?_|apply zdT ?_)
  refine vL (fun E' H'=>StN l i v H2 (kU n) (oh n) .nilS [zfB n 0,zfB n 1,zfB n 2] E' H') ?_ ?_
  .repeat' (first
    |(apply au ?_;clear hK K)|apply Ry.o ?_|apply cD ?_|(apply dq ?_;first|refine Rx.k (Ln (fun _=>rfl) _ _ _) ?_)|(apply bS (fun hg hgp=>?_) (fun hg hgp=>?_)<;>try(cases hg;done))|(apply aV (fun hb hbp=>?_) (fun hb hbp=>?_)<;>try(cases hb;done))|apply am ?_|(apply zdQ fun K hK=>?_)|(apply zdP 5 [(3,19),(8,19),(13,19),(15,19),(17,19)] fun K hK=>?_)|(apply zdP 10 [(3,9),(8,9)] fun K hK=>?_)|(apply zdP 15 [(1,6),(1,8),(1,9),(1,11),(4,6),(10,11)] fun K hK=>?_)|(apply zdU ?_;try intro _)|(apply zdV ?_ ?_<;>clear hK K)|apply aH ?_|apply zd9 rfl ?_|apply aA ?_|apply zdR ?_|apply aB ?_|apply zdT ?_)
   .exact eK
   .have h1:kU n=1:=by rw[kU,aE gC]
    have h2:oh n=mY (cq (n.tdiv 11)) n:=by rw[oh,aE gC]
    refine⟨rfl,eE,eE,eE,eE,eE,eE,eE,?_,?_,?_,?_⟩
    .exact rd.keep (aM _) fun k hk=>iA
    .rw[bz,aE rfl,h1,h2]
    .intro k hk;rw[bz,ah ac];exact old k hk
    .exact nx
   .have h1:kU n=mZ false n:=by rw[kU,ah gC]
    have h2:oh n=0:=by rw[oh,ah gC]
    exact⟨rfl,eE,eE,eE,eE,eE,eE,eE,rd,by rw[h1,h2];exact gn,old,nx⟩
  clear rd gn old nx k0 k1 k4 k5 k6 k7 k8 E3 H3;rintro E3 H3 ⟨k0,k1,k4,k5,k6,k7,k8,rd,gn,old,nx⟩;dsimp only[lA];have har:=zax n;have hnode:pC (zfj l false i) false n=⟨kU n,if kU n=27 then 1+zei (cq (n.tdiv 5)) 2 else if kU n=23\/kU n=28 then zei (cq (n.tdiv 5)) 2 else oh n,lO (zfj l false i) (kU n) n (bH (kU n)).1.toNat⟩:=by
   unfold pC kU oh Lp;split<;>rfl
  generalize kU n=op at *;obtain⟨c,hca⟩:=gG har.1;have hc3':c<=3:=ac;rw[hca,gH]at hnode;have hav:fy op=.tup [.int .i64 c,.bool (bH op).2]:=by rw[fy,hca]
  clear har;repeat' (first
   |(apply au ?_;clear hK K)|apply Rx.o ?_|apply ba ?_|(apply eu ?_;first|refine Rx.k (jA (fun _=>rfl) _ _) ?_)|(apply bQ (fun hg hgp=>?_) (fun hg hgp=>?_)<;>try(cases hg;done))|(apply aT (fun hb hbp=>?_) (fun hb hbp=>?_)<;>try(cases hb;done))|apply am ?_|(apply zdQ fun K hK=>?_)|(apply zdP 5 [(3,19),(8,19),(13,19),(15,19),(17,19)] fun K hK=>?_)|(apply zdP 10 [(3,9),(8,9)] fun K hK=>?_)|(apply zdP 15 [(1,6),(1,8),(1,9),(1,11),(4,6),(10,11)] fun K hK=>?_)|(apply zdU ?_;try intro _)|(apply zdV ?_ ?_<;>clear hK K)|apply aH ?_|apply zd9 rfl ?_|apply aA ?_|apply zdR ?_|apply aB ?_|apply zdT ?_)
  refine zeL [9] [] 11 c (fun j E H=>∃kv,StN l i v H2 op (oh n) kv ([zfB n 0,zfB n 1,zfB n 2].drop j) E H/\ze0 H kv (lO (zfj l false i) op n j) (H2.next+3)) eE ⟨.nilS,⟨eE,eE,eE,eE,eE,eE,eE,rd,gn,old,nx⟩,.inl ⟨rfl,rfl⟩⟩ ?_;clear rd gn old nx k0 k1 k4 k5 k6 k7 k8;rintro j E4 H4 hj hcE hrH hnH hsI ⟨kv,⟨k0,k1,k4,k5,k6,k7,k8,rd,gn,old,nx⟩,hkv⟩;(try simp only[zec,zeb,aX,zdX,zd2,Nat.reduceBEq,Nat.reduceAdd,Nat.reduceLeDiff,tyF, *]at hcE);(try simp only[zec,zeb,aX,zdX,zd2,Nat.reduceBEq,Nat.reduceAdd,Nat.reduceLeDiff,tyF, *]at hrH);(try simp only[zea,zef,zeB,bT,Nat.reduceAdd]at hnH);have h1kv:AV.one kv=true/\kv.cells=[kv]:=by
   rcases hkv with⟨rfl,_⟩|⟨r,imm,rfl,_⟩<;>exact⟨rfl,rfl⟩
  obtain⟨hkv1,hkv2⟩:=h1kv;by_cases hjc:j<c
  .have hjc':(j:Int)<c:=by omega
   have hnx:(zes ([zfB n 0,zfB n 1,zfB n 2].drop j)).1=zfB n j/\(zes ([zfB n 0,zfB n 1,zfB n 2].drop j)).2=[zfB n 0,zfB n 1,zfB n 2].drop (j+1):=by
    have hj3:j<3:=ac
    match j,hj3 with
    |0,_=>exact⟨rfl,rfl⟩
    |1,_=>exact⟨rfl,rfl⟩
    |2,_=>exact⟨rfl,rfl⟩
   repeat' (first
    |(apply au ?_;clear hK K)|apply Ry.o ?_|apply cD ?_|(apply dq ?_;first|refine Rx.k (zaa (fun _=>rfl) _ _ _) ?_)|(apply bS (fun hg hgp=>?_) (fun hg hgp=>?_)<;>try(cases hg;done))|(apply aV (fun hb hbp=>?_) (fun hb hbp=>?_)<;>try(cases hb;done))|apply am ?_|(apply zdQ fun K hK=>?_)|(apply zdP 5 [(3,19),(8,19),(13,19),(15,19),(17,19)] fun K hK=>?_)|(apply zdP 10 [(3,9),(8,9)] fun K hK=>?_)|(apply zdP 15 [(1,6),(1,8),(1,9),(1,11),(4,6),(10,11)] fun K hK=>?_)|(apply zdU ?_;try intro _)|(apply zdV ?_ ?_<;>clear hK K)|apply aH ?_|apply zd9 rfl ?_|apply aA ?_|apply zdR ?_|apply aB ?_|apply zdT ?_)
   refine bA rfl bE bF ?_;simp only[bB];refine bp ?_ (ym (zfv (fun _=>rfl) rfl) rd cT);rintro w H5 ⟨rfl,rd5,n5,o5⟩;have gn5:H5.get (H2.next+2)=_:=(o5 _ ac).trans gn;have old5:∀k,k<H2.next->kQ (H2.get k) (H5.get k):=fun k hk=>by rw[o5 k ac];exact old k hk
   have nx5:H2.next+3<=H5.next:=ac
   have hkv5:ze0 H5 kv (lO (zfj l false i) op n j) (H2.next+3):=hkv.keep ac fun k hk=>o5 k Fc;rw[hnx.2]at rd5;dsimp only[zd4];repeat' (first
    |(apply au ?_;clear hK K)|apply Rx.o ?_|apply ba ?_|(apply bQ (fun hg hgp=>?_) (fun hg hgp=>?_)<;>try(cases hg;done))|(apply aT (fun hb hbp=>?_) (fun hb hbp=>?_)<;>try(cases hb;done))|apply am ?_|(apply zdQ fun K hK=>?_)|(apply zdP 5 [(3,19),(8,19),(13,19),(15,19),(17,19)] fun K hK=>?_)|(apply zdP 10 [(3,9),(8,9)] fun K hK=>?_)|(apply zdP 15 [(1,6),(1,8),(1,9),(1,11),(4,6),(10,11)] fun K hK=>?_)|(apply zdU ?_;try intro _)|(apply zdV ?_ ?_<;>clear hK K)|apply aH ?_|apply zd9 rfl ?_|apply aA ?_|apply zdR ?_|apply aB ?_|apply zdT ?_)
   refine bA rfl bE bF ?_;simp only[bB];refine bp ?_ (zau (fun _=>rfl) rfl ac (hvL H5 old5 ac) _ _ ⟨hno,Z0 hnb (ZW _ _)⟩);rintro w H6 ⟨rfl,hy⟩;have n6:=hy.next
   have gn6:H6.get (H2.next+2)=_:=(hy.out _ ac).trans gn5;have rd6:=rd5.icy hy ac;have old6:∀k,k<H2.next->kQ (H2.get k) (H6.get k):=fun k hk=>(old5 k hk).trans (hy.same k)
   have hkv6:ze0 H6 kv (lO (zfj l false i) op n j) (H2.next+3):=hkv5.keep ac fun k hk=>hy.out k (by have:=(hkv5.lt hk).1;omega);have nx6:H2.next+3<=H6.next:=ac
   have n6':H5.next<=H6.next:=ac
   have n5':H4.next<=H5.next:=ac
   clear hy n6 n5;have hks:lO (zfj l false i) op n (j+1)=lO (zfj l false i) op n j++[sJ (zfj l false i) (pB op j) (zfB n j)]:=by rw[lO]
   generalize sJ (zfj l false i) (pB op j) (zfB n j)=x at *;have hvb:ze0 (H6.alloc (.cells [.int .i64 x] 0 true)) kv (lO (zfj l false i) op n j) (H2.next+3):=hkv6.keep (cZ _) fun k hk=>by rw[zd1,ah (by have:=(hkv6.lt hk).2;omega)]
   obtain⟨v5,H7,a5,s5,n7,f7,o7⟩:=pi (r:=H6.next) (imm:=0) x hvb fx eR (by rw[E7];omega);have n7':H6.next+1<=H7.next:=by simp only[zea]at n7;omega
   have o7':∀k,k<H2.next+3->H7.get k=H6.get k:=fun k hk=>by rw[f7 k hk,zd1,ah ac]
   clear n7 f7 o7 hvb;have gn7:H7.get (H2.next+2)=_:=(o7' _ ac).trans gn6;have e7:(H2.next+2 == H6.next)=false:=zeq ac;have e8:(H2.next+2 == H7.next)=false:=zeq ac;have h1v5:AV.one v5=true/\v5.cells=[v5]:=by obtain⟨r,imm,rfl,_⟩:=s5;exact⟨rfl,rfl⟩
   obtain⟨hv51,hv52⟩:=h1v5;dsimp only[zd4];repeat' (first
    |(apply au ?_;clear hK K)|apply Rx.o ?_|apply ba ?_|(apply bQ (fun hg hgp=>?_) (fun hg hgp=>?_)<;>try(cases hg;done))|(apply aT (fun hb hbp=>?_) (fun hb hbp=>?_)<;>try(cases hb;done))|apply am ?_|(apply zdQ fun K hK=>?_)|(apply zdP 5 [(3,19),(8,19),(13,19),(15,19),(17,19)] fun K hK=>?_)|(apply zdP 10 [(3,9),(8,9)] fun K hK=>?_)|(apply zdP 15 [(1,6),(1,8),(1,9),(1,11),(4,6),(10,11)] fun K hK=>?_)|(apply zdU ?_;try intro _)|(apply zdV ?_ ?_<;>clear hK K)|apply aH ?_|apply zd9 rfl ?_|apply aA ?_|apply zdR ?_|apply aB ?_|apply zdT ?_)
   .exact eK
   .refine⟨ac,zd7,zd7,eN,(by simp only[zdX,Nat.reduceBEq, *];exact zfQ (n:=c) ac ac),?_⟩;refine⟨v5,⟨eE,eE,eE,eE,eE,eE,eE,?_,?_,?_,?_⟩,?_⟩
    .exact(rd6.keep ac fun k hk=>o7' k ac).keep (aM _) fun k hk=>iA
    .rw[bz,aE rfl]
    .intro k hk;rw[bz,ah ac,o7' k ac];exact old6 k hk
    .simp only[zef];omega
    .rw[hks];exact .inr (s5.keep (aM _) fun k hk=>by rw[bz,ah EQ])
  .have hje:j=c:=by omega
   subst hje;have hjc':¬(j:Int)<j:=ac;repeat' (first
    |(apply au ?_;clear hK K)|apply Ry.o ?_|apply cD ?_|(apply bS (fun hg hgp=>?_) (fun hg hgp=>?_)<;>try(cases hg;done))|apply am ?_|(apply zdQ fun K hK=>?_)|(apply zdP 5 [(3,19),(8,19),(13,19),(15,19),(17,19)] fun K hK=>?_)|(apply zdP 10 [(3,9),(8,9)] fun K hK=>?_)|(apply zdP 15 [(1,6),(1,8),(1,9),(1,11),(4,6),(10,11)] fun K hK=>?_)|(apply zdU ?_;try intro _)|(apply zdV ?_ ?_<;>clear hK K)|apply aH ?_|apply zd9 rfl ?_|apply aA ?_|apply zdR ?_|apply aB ?_|apply zdT ?_)
   (apply aT (fun hb hbp=>?_) (fun hb hbp=>?_)<;>try(cases hb;done));repeat' (first
    |(apply au ?_;clear hK K)|apply Rx.o ?_|apply ba ?_|(apply bQ (fun hg hgp=>?_) (fun hg hgp=>?_)<;>try(cases hg;done))|apply am ?_|(apply zdQ fun K hK=>?_)|(apply zdP 5 [(3,19),(8,19),(13,19),(15,19),(17,19)] fun K hK=>?_)|(apply zdP 10 [(3,9),(8,9)] fun K hK=>?_)|(apply zdP 15 [(1,6),(1,8),(1,9),(1,11),(4,6),(10,11)] fun K hK=>?_)|(apply zdU ?_;try intro _)|(apply zdV ?_ ?_<;>clear hK K)|apply aH ?_|apply zd9 rfl ?_|apply aA ?_|apply zdR ?_|apply aB ?_|apply zdT ?_)
   have hr5:=zfP (n:=cq (n.tdiv 5)) (m:=2) ac ac;obtain⟨p,hpe⟩:∃p,zei (cq (n.tdiv 5)) 2=p:=⟨_,rfl⟩;have hp':zei (IntKind.wrap .i64 (n.tdiv 5)) 2=p:=hpe;rw[hpe]at hr5 hnode;clear hpe;have ew:IntKind.wrap .i64 (1+p)=1+p:=zft ac ac;refine vL (fun E' H'=>StN l i v H2 op (if op=27 then 1+p else oh n) kv ([zfB n 0,zfB n 1,zfB n 2].drop j) E' H'/\ze0 H' kv (lO (zfj l false i) op n j) (H2.next+3)) ?_ ?_
   .repeat' (first
     |(apply au ?_;clear hK K)|apply Ry.o ?_|apply cD ?_|(apply dq ?_;first|refine Rx.k (zfZ (fun _=>rfl) _ _ aY _) ?_)|(apply bS (fun hg hgp=>?_) (fun hg hgp=>?_)<;>try(cases hg;done))|(apply aV (fun hb hbp=>?_) (fun hb hbp=>?_)<;>try(cases hb;done))|apply am ?_|(apply zdQ fun K hK=>?_)|(apply zdP 5 [(3,19),(8,19),(13,19),(15,19),(17,19)] fun K hK=>?_)|(apply zdP 10 [(3,9),(8,9)] fun K hK=>?_)|(apply zdP 15 [(1,6),(1,8),(1,9),(1,11),(4,6),(10,11)] fun K hK=>?_)|(apply zdU ?_;try intro _)|(apply zdV ?_ ?_<;>clear hK K)|apply aH ?_|apply zd9 rfl ?_|apply aA ?_|apply zdR ?_|apply aB ?_|apply zdT ?_)
    .refine⟨rfl,⟨eE,eE,eE,eE,eE,eE,eE,?_,?_,?_,?_⟩,?_⟩
     .exact rd.keep (aM _) fun k hk=>iA
     .have hop:op=27:=by assumption
      rw[bz,aE rfl,aE hop,hop]
     .intro k hk;rw[bz,ah ac];exact old k hk
     .exact nx
     .exact hkv.keep (aM _) fun k hk=>by rw[bz,ah Fc]
    .refine⟨rfl,⟨eE,eE,eE,eE,eE,eE,eE,rd,?_,old,nx⟩,hkv⟩;rw[ah gC];exact gn
   clear gn rd old nx hkv k0 k1 k4 k5 k6 k7 k8 hb hbp;rintro E5 H5 ⟨⟨k0,k1,k4,k5,k6,k7,k8,rd,gn,old,nx⟩,hkv⟩;dsimp only[lA];generalize him1:(if op=27 then 1+p else oh n)=im1 at *;repeat' (first
    |(apply au ?_;clear hK K)|apply Rx.o ?_|apply ba ?_|(apply bQ (fun hg hgp=>?_) (fun hg hgp=>?_)<;>try(cases hg;done))|apply am ?_|(apply zdQ fun K hK=>?_)|(apply zdP 5 [(3,19),(8,19),(13,19),(15,19),(17,19)] fun K hK=>?_)|(apply zdP 10 [(3,9),(8,9)] fun K hK=>?_)|(apply zdP 15 [(1,6),(1,8),(1,9),(1,11),(4,6),(10,11)] fun K hK=>?_)|(apply zdU ?_;try intro _)|(apply zdV ?_ ?_<;>clear hK K)|apply aH ?_|apply zd9 rfl ?_|apply aA ?_|apply zdR ?_|apply aB ?_|apply zdT ?_)
   all_goals
    refine vL (fun E' H'=>StN l i v H2 op (if op=27 then 1+p else if op=23\/op=28 then p else oh n) kv ([zfB n 0,zfB n 1,zfB n 2].drop j) E' H'/\ze0 H' kv (lO (zfj l false i) op n j) (H2.next+3)) ?_ ?_
    .repeat' (first
      |(apply au ?_;clear hK K)|apply Ry.o ?_|apply cD ?_|(apply dq ?_;first|refine Rx.k (zfZ (fun _=>rfl) _ _ aY _) ?_)|(apply bS (fun hg hgp=>?_) (fun hg hgp=>?_)<;>try(cases hg;done))|(apply aV (fun hb hbp=>?_) (fun hb hbp=>?_)<;>try(cases hb;done))|apply am ?_|(apply zdQ fun K hK=>?_)|(apply zdP 5 [(3,19),(8,19),(13,19),(15,19),(17,19)] fun K hK=>?_)|(apply zdP 10 [(3,9),(8,9)] fun K hK=>?_)|(apply zdP 15 [(1,6),(1,8),(1,9),(1,11),(4,6),(10,11)] fun K hK=>?_)|(apply zdU ?_;try intro _)|(apply zdV ?_ ?_<;>clear hK K)|apply aH ?_|apply zd9 rfl ?_|apply aA ?_|apply zdR ?_|apply aB ?_|apply zdT ?_)
     all_goals first
      |(refine⟨rfl,⟨eE,eE,eE,eE,eE,eE,eE,?_,?_,?_,?_⟩,?_⟩
        ·exact rd.keep (aM _) fun k hk=>iA
        .have hop:op=23\/op=28:=by omega
         rw[bz,aE rfl,ah ac,aE hop];first
         |done
         |(have hop:op=23:=by assumption
           rw[hop];done)
         |(have hop:op=28:=by assumption
           rw[hop];done)
        .intro k hk;rw[bz,ah ac];exact old k hk
        .exact nx
        .exact hkv.keep (aM _) fun k hk=>by rw[bz,ah Fc])
      |(refine⟨rfl,⟨eE,eE,eE,eE,eE,eE,eE,rd,?_,old,nx⟩,hkv⟩
        rw[gn,<-him1,ah (by omega:¬(op=23\/op=28))])
    clear gn rd old nx hkv k0 k1 k4 k5 k6 k7 k8 him1;rintro E6 H6 ⟨⟨k0,k1,k4,k5,k6,k7,k8,rd,gn,old,nx⟩,hkv⟩;dsimp only[lA];generalize (if op=27 then 1+p else if op=23\/op=28 then p else oh n)=im2 at *;obtain⟨oo,hoo⟩:∃oo,oo=op:=⟨_,rfl⟩;rw[<-hoo]at gn hnode hkv;clear hoo;have hvT:ze4 (fun _=>True) 2 H6 3 v ((zfj l false i).map Nd.cells):=(hvL H6 old ac).keep (fun _ _ _=>trivial) (aM _) fun _ _ _=>rfl;have hcw:zeA (fun k=>H2.next+3<=k) 2 H6 [.int .i64 oo,.int .i64 im2,kv] (pC (zfj l false i) false n).cells:=by rw[hnode];exact LP oo im2 hkv fun _ h=>h
    have h1kv:AV.one kv=true:=by rcases hkv with⟨rfl,_⟩|⟨r,imm,rfl,_⟩<;>rfl
    repeat' (first
     |(apply au ?_;clear hK K)|apply Rx.o ?_|apply ba ?_|(apply bQ (fun hg hgp=>?_) (fun hg hgp=>?_)<;>try(cases hg;done))|(apply aT (fun hb hbp=>?_) (fun hb hbp=>?_)<;>try(cases hb;done))|apply am ?_|(apply zdQ fun K hK=>?_)|(apply zdP 5 [(3,19),(8,19),(13,19),(15,19),(17,19)] fun K hK=>?_)|(apply zdP 10 [(3,9),(8,9)] fun K hK=>?_)|(apply zdP 15 [(1,6),(1,8),(1,9),(1,11),(4,6),(10,11)] fun K hK=>?_)|(apply zdU ?_;try intro _)|(apply zdV ?_ ?_<;>clear hK K)|apply aH ?_|apply zd9 rfl ?_|apply aA ?_|apply zdR ?_|apply aB ?_|apply zdT ?_)
    refine bA rfl bE bF ?_;simp only[bB];refine bp ?_ (zav (fun _=>rfl) rfl ac hvT (hcw.keep (S':=fun _=>True) (fun _ _=>trivial) (aM _) fun _ _ _=>rfl) hno);rintro w H7 ⟨rfl,hy⟩;have n7:=hy.next
    have hv7:ze4 (fun k=>0<=k) 2 H7 3 v ((zfj l false i).map Nd.cells):=(hvT.icyB ac fun k _ _=>hy.same k).keep (fun _ _ _=>dE _) (aM _) fun _ _ _=>rfl;have hcw7:zeA (fun k=>H2.next+3<=k) 2 H7 [.int .i64 oo,.int .i64 im2,kv] (pC (zfj l false i) false n).cells:=hcw.frame (fun _ h=>h) ac fun k _ _=>hy.same k;obtain⟨im,gn7⟩:∃im,H7.get (H2.next+2)=some (.cells [.int .i64 oo,.int .i64 im2,kv] im true):=by
     rcases hy.same (H2.next+2)with e|⟨cs,i1,i2,tip,e1,e2,_⟩
     .exact⟨0,by rw[<-e];exact gn⟩
     .rw[gn]at e1;simp only[aQ,HB.cells.injEq]at e1;obtain⟨rfl,rfl,rfl⟩:=e1;exact⟨i2,e2⟩
    have n7':H2.next+3<=H7.next:=ac
    clear hy n7 hvT hcw gn rd old hkv;dsimp only[zd4];generalize pC (zfj l false i) false n=nd at *;cases hhas:qj (zfj l false i) nd with
    |true=>
     have hadd:qk (zfj l false i) nd=zfj l false i:=by rw[qk,aE hhas]
     repeat' (first
      |(apply au ?_;clear hK K)|apply Rx.o ?_|apply ba ?_|(apply bQ (fun hg hgp=>?_) (fun hg hgp=>?_)<;>try(cases hg;done))|(apply aT (fun hb hbp=>?_) (fun hb hbp=>?_)<;>try(cases hb;done))|apply am ?_|(apply zdQ fun K hK=>?_)|(apply zdP 5 [(3,19),(8,19),(13,19),(15,19),(17,19)] fun K hK=>?_)|(apply zdP 10 [(3,9),(8,9)] fun K hK=>?_)|(apply zdP 15 [(1,6),(1,8),(1,9),(1,11),(4,6),(10,11)] fun K hK=>?_)|(apply zdU ?_;try intro _)|(apply zdV ?_ ?_<;>clear hK K)|apply aH ?_|apply zd9 rfl ?_|apply aA ?_|apply zdR ?_|apply aB ?_|apply zdT ?_)
     refine⟨ac,zd7,zd7,eN,Fe,?_⟩;refine⟨v,eE,?_⟩;rw[hns,hadd];exact hv7.keep (fun _ _ _=>trivial) (aM _) fun _ _ _=>rfl
    |false=>
     have hadd:qk (zfj l false i) nd=zfj l false i++[nd]:=by rw[qk,ah (by rw[hhas];simp)]
     have hone:([.int .i64 oo,.int .i64 im2,kv]:List AV).all AV.one=true:=by
      show(true&&(true&&(AV.one kv&&true)))=true;rw[h1kv];rfl
     have kbs:=fun H=>Bn H (cs:=[.int .i64 oo,.int .i64 im2,kv]) rfl hone;have hvb:ze4 (fun k=>0<=k) 2 (H7.alloc (.cells [.int .i64 oo,.int .i64 im2,kv] 0 true)) 3 v ((zfj l false i).map Nd.cells):=hv7.keep (fun _ _ h=>h) (cZ _) fun k _ hk=>ez;obtain⟨v8,H8,a8,s8,n8,f8,q8⟩:=ze4.push (P:=Tryz.prog) (t:=22) Tryz.underlying22 oW vp vq rfl aC hvb (dE _) (r:=H7.next) (imm:=0) (row:=[.int .i64 oo,.int .i64 im2,kv]) (w:=nd.cells) eR rfl hone (hcw7.keep (fun k hk=>⟨dE _,fun o m z' e=>by have:=hvq k o m z' e;omega⟩) (cZ _) fun k _ hk=>ez) vY vY;have n8':H7.next<=H8.next:=by simp only[zea]at n8;omega
     clear n8 f8 q8 hvb;repeat' (first
      |(apply au ?_;clear hK K)|apply Rx.o ?_|apply ba ?_|(apply bQ (fun hg hgp=>?_) (fun hg hgp=>?_)<;>try(cases hg;done))|(apply aT (fun hb hbp=>?_) (fun hb hbp=>?_)<;>try(cases hb;done))|apply am ?_|(apply zdQ fun K hK=>?_)|(apply zdP 5 [(3,19),(8,19),(13,19),(15,19),(17,19)] fun K hK=>?_)|(apply zdP 10 [(3,9),(8,9)] fun K hK=>?_)|(apply zdP 15 [(1,6),(1,8),(1,9),(1,11),(4,6),(10,11)] fun K hK=>?_)|(apply zdU ?_;try intro _)|(apply zdV ?_ ?_<;>clear hK K)|apply aH ?_|apply zd9 rfl ?_|apply aA ?_|apply zdR ?_|apply aB ?_|apply zdT ?_)
     refine⟨ac,zd7,zd7,eN,Fe,?_⟩;refine⟨v8,eE,?_⟩;rw[hns,hadd,pU];exact s8.keep (fun _ _ _=>trivial) (aM _) fun _ _ _=>rfl
 .have hie:i=cnt:=by omega
  subst hie;have hx:∀H:Hp,ze4 (fun _=>True) 2 H 3 v ((zfj l false i).map Nd.cells)->∃m u,iceV H m v=some u/\cP 60 u=zfe (jD l false):=fun H h=>by
   obtain⟨u,h1,h2⟩:=h.rd;obtain⟨m0,hm⟩:=zeS.iceV h1;exact⟨m0,u,hm m0 (aM _),by rw[h2 60 ac,hnl]⟩
  have hxx:=hx H2 hv;clear hx hv;by_cases c1:(i:Int)<l.length
  .have c2:¬(i:Int)<14:=by omega
   repeat' (first
    |(apply au ?_;clear hK K)|apply Ry.o ?_|apply cD ?_|(apply bS (fun hg hgp=>?_) (fun hg hgp=>?_)<;>try(cases hg;done))|(apply aV (fun hb hbp=>?_) (fun hb hbp=>?_)<;>try(cases hb;done))|apply am ?_|(apply zdQ fun K hK=>?_)|(apply zdP 5 [(3,19),(8,19),(13,19),(15,19),(17,19)] fun K hK=>?_)|(apply zdP 10 [(3,9),(8,9)] fun K hK=>?_)|(apply zdP 15 [(1,6),(1,8),(1,9),(1,11),(4,6),(10,11)] fun K hK=>?_)|(apply zdU ?_;try intro _)|(apply zdV ?_ ?_<;>clear hK K)|apply aH ?_|apply zd9 rfl ?_|apply aA ?_|apply zdR ?_|apply aB ?_|apply zdT ?_)
   all_goals (refine⟨zdZ,_,zd6,?_⟩;try simp only[zdY])
   exact hxx
  .repeat' (first
    |(apply au ?_;clear hK K)|apply Ry.o ?_|apply cD ?_|(apply bS (fun hg hgp=>?_) (fun hg hgp=>?_)<;>try(cases hg;done))|(apply aV (fun hb hbp=>?_) (fun hb hbp=>?_)<;>try(cases hb;done))|apply am ?_|(apply zdQ fun K hK=>?_)|(apply zdP 5 [(3,19),(8,19),(13,19),(15,19),(17,19)] fun K hK=>?_)|(apply zdP 10 [(3,9),(8,9)] fun K hK=>?_)|(apply zdP 15 [(1,6),(1,8),(1,9),(1,11),(4,6),(10,11)] fun K hK=>?_)|(apply zdU ?_;try intro _)|(apply zdV ?_ ?_<;>clear hK K)|apply aH ?_|apply zd9 rfl ?_|apply aA ?_|apply zdR ?_|apply aB ?_|apply zdT ?_)
   all_goals (refine⟨zdZ,_,zd6,?_⟩;try simp only[zdY])
   exact hxx)
end
theorem zk5{P:Program}{t e:TypeId}{z b:Nat}{zz:List AV}(ht:P.underlying t=some (.slice e))(hs:zer P e=some z)(hb:zfg P e=some b)(hz:ze5 P e=some zz)(hzz:zz.length=z)(hsrc:zfT P t=true)
 {S S':Nat->Prop}{n:Nat}{H:Hp}{v:AV}{ws:List (List AV)} (h:ze4 S n H z v ws) (hSS:∀k,k<H.next->S k->S' k) (hN:S' H.next) {r imm:Nat}{row:List AV} (hg:H.get r=some (.cells row imm true)) (hrow:row.length=z) (hone:row.all AV.one=true)
 (hb1:(ws.length+1)*b<=zfw) (hb2:ws.length+1<=zfw) :
 ∃H' rows imm',zeZ P false H t t v (.sl r 0 1 z)=some (.sl H.next 0 (ws.length+1) z,H')/\rows.length=ws.length/\(∀x∈rows,x.length=z)/\H'.get H.next=some (.cells (rows.flatten++row) imm' true)/\imm'<=rows.flatten.length/\H'.next=H.next+1/\(∀k,k<H.next->(∀o m z',v≠.sl k o m z')->H'.get k=H.get k) /\
  fb (fun k=>S' k/\k≠H.next) n H' z rows ws:=by
 have hx:zfz H z (.sl r 0 1 z)=some (1,row):=by
  have:=tI (H:=H) (r:=r) (o:=0) (n:=1) (z:=z) (s:=z) hg Fa;rw[this,gD,iq ac]
 rcases h with⟨rfl,rfl⟩|⟨q,imm',rows,rfl,h1,h2,h3,h4,h5⟩
 .exact⟨H.alloc (.cells row 0 true),[],0,append_nil ht hs hb hz hsrc hx hone hzz (by simpa using hb1) (by simpa using hb2),rfl,aK,by rw[zd1,aE rfl];simp,dE _,rfl,fun k hk _=>ez,trivial⟩
 .have hrl:=vD (fb.len h5);have hwl:rows.length=ws.length:=dk.len h5;have htr:gW false H z (.sl q 0 rows.length z)=H:=by
   unfold gW;simp only[h3,bT];have:Nat.blt (rows.length*z) rows.flatten.length=false:=by
    cases hb:Nat.blt (rows.length*z) rows.flatten.length with
    |false=>rfl
    |true=>rw[iW]at hb;omega
   simp only[tL,r6,this,nU]
  refine⟨(H.kill q).alloc (.cells (rows.flatten++row) (imm'-0) true),rows,imm'-0,?_,hwl,fb.len h5,?_,ac,rfl,fun k hk hno=>?_,?_⟩
  .simp only[zeZ,ht,hs,hb,hz,hsrc,hx,hone,htr,hzz,oR,bN,ja,h3,bT,gD,dS,bU];rw[aE ⟨by rw[hwl];exact hb1,by rw[hwl];exact hb2,ac,trivial,h4⟩,hwl]
  .show((H.kill q).alloc _).get (H.kill q).next=_
   rw[zd1,aE rfl]
  .rw[zd1,ah l8,zfU,ah (fun e=>hno 0 rows.length z lZ)]
  .exact h5.keep2 (fun k h6 h7=>⟨hSS k h6 h7.1,ac⟩) (cZ _) fun k h6 h7=>by rw[zd1,ah l8,zfU,ah h6.2]
theorem ze4.of{S:Nat->Prop}{n q z imm:Nat}{H:Hp}{rows ws:List (List AV)}{row w:List AV}(hS:S q)(hq:q<H.next)(hz:∀x∈rows,x.length=z)(hrow:row.length=z)(hg:H.get q=some (.cells (rows.flatten++row) imm true))(hi:imm<=rows.flatten.length)(hr:fb (fun k=>S k/\k≠q) n H z rows ws)(hw:zeA (fun k=>S k/\k≠q) n H row w):ze4 S n H z (.sl q 0 (ws.length+1) z) (ws++[w]):=by
 have hl:rows.length=ws.length:=dk.len hr;exact .inr ⟨q,imm,rows++[row],by rw[eO,hl];rfl,hS,hq,by rw[hg];simp,Lu,hr.append ⟨⟨hrow,hw⟩,trivial⟩⟩
theorem Bq{S:Nat->Prop}{n:Nat}{H:Hp}{r:Nat}(l:List (List UInt8))(hS:S r)(hr:r<H.next)(hg:H.get r=some (.cells (l.map .str) 0 true)):ze4 S (n+1) H 1 (.sl r 0 l.length 1) (l.map fun s=>[AV.str s]):=
 .inr ⟨r,0,l.map fun s=>[AV.str s],by rw[dy],hS,hr,by rw[Am];exact hg,dE _,fb.strs l⟩
structure FnL (pt:Nat->Nat) (b n:Nat) (H:Hp) (f:Fu) (p l bo:AV) (v:List AV):Prop where
 len:v.length=5
 one:v.all AV.one=true
 ps:ze4 (fun q=>pt q=b) n H 1 p (f.params.map fun s=>[AV.str s])
 ls:ze4 (fun q=>pt q=b+1) n H 1 l (f.locals.map fun s=>[AV.str s])
 bo:ze4 (fun q=>pt q=b+2) n H 17 bo (f.body.map St.cells)
 vw:zeA (fun q=>pt q=b+3) n H v f.value.cells
def Br(nm:List UInt8)(p l bo:AV)(v:List AV):List AV:=[.str nm,p,l,bo]++v
structure ProgL (pt:Nat->Nat) (n:Nat) (H:Hp) (ra rf:Nat) (x y:Int) (f g:Fu) (pf lf bf:AV) (vf:List AV) (pg lg bg:AV) (vg:List AV):Prop where
 ga:H.get ra=some (.cells [.str [97],.int .i64 x,.str [98],.int .i64 y] 0 true)
 gf:H.get rf=some (.cells (Br f.name pf lf bf vf++Br g.name pg lg bg vg) 0 true)
 ltA:ra<H.next
 ltF:rf<H.next
 lra:pt ra=1
 lrf:pt rf=2
 F:FnL pt 3 n H f pf lf bf vf
 G:FnL pt 7 n H g pg lg bg vg
def sN(M a b c q:Nat):Nat:=if q<=M then 0 else if q=M+1 then 1 else if q=M+7 then 2 else if q=M+3 then 3 else if q=M+4 then 4 else if q=M+5 then 7 else if q=M+6 then 8 else if q<a then 5 else if q<b then 6 else if q<c then 9 else 10
theorem zaB{M a b c q:Nat}(h:M+8<=q)(h1:q<a):sN M a b c q=5:=Bg
theorem zaC{M a b c q:Nat}(h:M+8<=q)(h1:a<=q)(h2:q<b):sN M a b c q=6:=Bg
theorem zaD{M a b c q:Nat}(h:M+8<=q)(h0:a<=q)(h1:b<=q)(h2:q<c):sN M a b c q=9:=Bg
theorem zaE{M a b c q:Nat}(h:M+8<=q)(h0:a<=q)(h1:b<=q)(h2:c<=q):sN M a b c q=10:=Bg
end Go.Proofs.YtpbcimfiofmoeaaGreat
