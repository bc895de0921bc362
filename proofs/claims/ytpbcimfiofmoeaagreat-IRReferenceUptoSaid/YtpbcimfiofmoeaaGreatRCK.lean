/- Parts: R3g, R3h, R3i, R3j, G1, SpecK. -/
import Derived.Test.YtpbcimfiofmoeaaGreatRCJ
set_option linter.unusedSimpArgs false
set_option linter.unusedVariables false
set_option linter.unusedSectionVars false
set_option linter.defProp false
set_option maxHeartbeats 32000000
namespace Go.Ab
set_option maxRecDepth 20000
open Go
theorem yc{P:Prop}(h:P:=by rw[<- hHb,Hp.get_set,if_pos rfl]):P:=h
theorem KS{P:Prop}(h:P:=by show((mX a (zeM p)).getD []).length < _;rw[EX ha];omega):P:=h
theorem EQ{P:Prop}(h:P:=by have:=(s5.lt hk).1;omega):P:=h
theorem KT{P:Prop}(h:P:=by rw[hU hr0,hdU,km];(try simp only[Bool.not_eq_true',Bool.not_eq_false']at *);simp only[*,decide_true,decide_false,Bool.false_or,Bool.or_false,Bool.true_or,Bool.or_true,Bool.false_and,Bool.and_false,Bool.true_and,Bool.and_true,Bool.not_true,Bool.not_false,if_true,if_false,Int.reduceEq]):P:=h
theorem KU{P:Prop}(h:P:=by rw[<- hHb,Hp.get_set,if_neg ac,zd1,if_neg ac]):P:=h
theorem KV{P:Prop}(h:P:=by rw[o5 _ (nw _ ac) (na _ ac)];exact g4s):P:=h
theorem KW{P:Prop}(h:P:=by rw[o5 _ (nw _ ac) (na _ ac)];exact g4b):P:=h
theorem KX{P:Prop}(h:P:=by rw[o5 _ (nw _ ac) (na _ ac)];exact g40):P:=h
theorem KY{P:Prop}(h:P:=by simp only[zdX,Nat.reduceBEq, *];exact zfQ (n:=2) ac ac):P:=h
def uj:=@Int.tmod_lt_of_pos
def A0:=@List.length_singleton
def Zr:=@List.not_mem_nil
def Zs:=@or_false
def A1:=@List.mem_singleton
def vQ:=@List.mem_or_eq_of_mem_set
def Zt:=And.intro @iu.{0} @Zr.{0}
def jC:=And.intro Zt @Zs
end Go.Ab
namespace Go.Proofs.YtpbcimfiofmoeaaGreat
set_option maxRecDepth 20000
open Go Go.Ab
section
def tyR3g.tyF:=ad @dC (ad @eU (ad @jO (ad @kO (ad @iw (ad @iy (ad @hO (ad @fW (ad @r7 (ad @qO (ad @EP (@KR)))))))))))
open tyR3g
noncomputable def KZ:{c:SC // aS 85 (Tryz.f60.body.getD .skip)=c}:=by
 refine⟨?_,?_⟩;rotate_left
 .simp only[Tryz.f60,cj,aS,zen,zel,zeu,zev,Nat.blt,Nat.ble];rfl
def lL:List (List UInt8)->List (List UInt8)->Bool
 |_,[]=>false
 |seen,s::l=>ze2 seen s||lL (seen++[s]) l
def uk(an:List (List UInt8)):List (List UInt8)->List Fu->Bool
 |_,[]=>false
 |seen,f::fs=>ze2 seen f.name||lL an (f.params++f.locals)||uk an (seen++[f.name]) fs
def zeM(p:Pr):List (List UInt8):=p.arrays.map (·.name)
def px(p:Pr):Bool:=lL [] (zeM p)||uk (zeM p) [] p.funcs
def ru{α:Type}(l seen:List α)(i:Nat):Prop:=l=seen++l.drop i
theorem K0{α:Type}{l seen:List α}{i:Nat}(h:i<l.length)(e:ru l seen i):ru l (seen++[l[i]]) (i+1):=by
 unfold ru at *;rw[kH,List.singleton_append,<-jl h];exact e
theorem Zu(ρ:Nat->Int)(p:Pr)(hz:p.sz<2^36):bV Tryz.prog ρ 60 [.agg p.cells] (.bool (px p)):=zfq fit (pls:=pls) (l:=[qd]) ⟨D3 ρ,trivial⟩ (.cons (.agg p.pure) .nil) (.bool _) (by
 have hw:Plain (zdW pls [qd]) 60:=zfv (fun _=>rfl) rfl;have hkeep:(zdW pls [qd]).keep 60=false:=rfl;have hpz:p.sz=1+zf2 p.arrays+iZ p.funcs:=rfl;have hla:=qR p.arrays;have hlf:=qQ p.funcs;have hal:(zeM p).length=p.arrays.length:=by simp[zeM]
 refine zed (M:=85) (rs:=[.tmp 2]) (hw.call _) hw.ice hw.froz Tryz.func60 rfl rfl KZ.2 rfl ?_;dsimp only[KZ,zd8,Nat.reduceAdd];repeat' (first
  |(apply au ?_;clear hK K)|apply Rx.o ?_|apply ba ?_|(apply aT (fun hb hbp=>?_) (fun hb hbp=>?_)<;>try(cases hb;done))|apply am ?_|(apply zdQ fun K hK=>?_)|(apply zdP 16 [(0,3),(2,3),(5,3),(5,6)] fun K hK=>?_)|(apply zdU ?_;try intro _)|(apply zdV ?_ ?_<;>clear hK K)|apply aH ?_|apply aA ?_|apply zdR ?_|apply aB ?_|apply zdT ?_)
 refine zeL [1] [0] 5 p.arrays.length (fun i E H=>E.at 4=.nilS/\∃v seen,E.at 3=v/\eg H v seen 1/\lL [] (zeM p)=lL seen ((zeM p).drop i)/\ru (zeM p) seen i) eE ⟨eE,.nilS,[],eE,.inl ⟨rfl,rfl⟩,aK,by simp[ru]⟩ ?_;rintro i E H2 hi hcE hrH hnH hsI ⟨k4,v,seen,k3,s2,hJ,hsn⟩;(try simp only[zec,zeb,aX,zdX,zd2,Nat.reduceBEq,Nat.reduceAdd,Nat.reduceLeDiff,tyF, *]at hcE);(try simp only[zec,zeb,aX,zdX,zd2,Nat.reduceBEq,Nat.reduceAdd,Nat.reduceLeDiff,tyF, *]at hrH);(try simp only[zea,zef,zeB,bT,Nat.reduceAdd]at hnH);have hB0:(0 == H2.next)=false:=zeq ac;have hC0:(H2.next == 0)=false:=zeq ac;have hsl:seen.length<=p.arrays.length:=by have:zeM p=seen++(zeM p).drop i:=hsn;have:=lX List.length this;rw[eO]at this;omega
 repeat' (first
  |(apply au ?_;clear hK K)|apply Rx.o ?_|apply ba ?_|(apply aT (fun hb hbp=>?_) (fun hb hbp=>?_)<;>try(cases hb;done))|apply am ?_|(apply zdQ fun K hK=>?_)|(apply zdP 16 [(0,3),(2,3),(5,3),(5,6)] fun K hK=>?_)|(apply zdU ?_;try intro _)|(apply zdV ?_ ?_<;>clear hK K)|apply aH ?_|apply aA ?_|apply zdR ?_|apply aB ?_|apply zdT ?_)
 .have hlt:i<p.arrays.length:=by simpa using hb
  have hgx:p.arrays[i]?=some p.arrays[i]:=br hlt;have hgn:(zeM p)[i]' ac=p.arrays[i].name:=by simp[zeM]
  have hdr:lL seen ((zeM p).drop i)=(ze2 seen p.arrays[i].name||lL (seen++[p.arrays[i].name]) ((zeM p).drop (i+1))):=by rw[jl ac,hgn];rfl
  have hsn2:=K0 ac hsn;rw[hgn]at hsn2;repeat' (first
   |(apply au ?_;clear hK K)|apply Rx.o ?_|apply ba ?_|(apply aT (fun hb hbp=>?_) (fun hb hbp=>?_)<;>try(cases hb;done))|apply am ?_|(apply zdQ fun K hK=>?_)|(apply zdP 16 [(0,3),(2,3),(5,3),(5,6)] fun K hK=>?_)|(apply zdU ?_;try intro _)|(apply zdV ?_ ?_<;>clear hK K)|apply aH ?_|apply aA ?_|apply zdR ?_|apply aB ?_|apply zdT ?_)
  refine bA rfl bE bF ?_;simp only[bB];refine bp ?_ (D4 (fun _=>rfl) rfl s2 ac p.arrays[i].name);rintro w H3 ⟨rfl,s3,n3,f3,o3⟩;have m3:H2.next<=H3.next:=ac
  clear n3;dsimp only[zd4];have g30:H3.get 0=some (.cells p.cells 0 true):=by rw[f3 0 ac];exact hrH
  have e1:(0 == H3.next)=false:=cT;have s4:eg (H3.alloc (.cells [.str p.arrays[i].name] 0 true)) v seen 1:=s3.keep (cZ _) fun k hk=>by rw[zd1,ah (by have:=s3.lt hk;omega)]
  repeat' (first
   |(apply au ?_;clear hK K)|apply Rx.o ?_|apply ba ?_|(apply aT (fun hb hbp=>?_) (fun hb hbp=>?_)<;>try(cases hb;done))|apply am ?_|(apply zdQ fun K hK=>?_)|(apply zdP 16 [(0,3),(2,3),(5,3),(5,6)] fun K hK=>?_)|(apply zdU ?_;try intro _)|(apply zdV ?_ ?_<;>clear hK K)|apply aH ?_|apply aA ?_|apply zdR ?_|apply aB ?_|apply zdT ?_)
  .all_goals (refine⟨zdZ,_,zd6,?_⟩;try simp only[zdY])
   rw[px,hJ,hdr];(try simp only[cW]at *);simp only[ *,cX,bN,bU,Int.reduceEq]
  .obtain⟨v5,H5,a5,s5,n5,f5,o5⟩:=xP (r:=H3.next) (imm:=0) p.arrays[i].name s4 fx eR ac;have g50:H5.get 0=some (.cells p.cells 0 true):=by rw[f5 0 ac,zd1,ah ac];exact g30
   simp only[zea]at n5;have m5:H3.next+1<=H5.next:=ac
   clear n5;refine ji eV eV t9 ?_;repeat' (first
    |(apply au ?_;clear hK K)|apply Rx.o ?_|apply ba ?_|(apply aT (fun hb hbp=>?_) (fun hb hbp=>?_)<;>try(cases hb;done))|apply am ?_|(apply zdQ fun K hK=>?_)|(apply zdP 16 [(0,3),(2,3),(5,3),(5,6)] fun K hK=>?_)|(apply zdU ?_;try intro _)|(apply zdV ?_ ?_<;>clear hK K)|apply aH ?_|apply aA ?_|apply zdR ?_|apply aB ?_|apply zdT ?_)
   refine⟨ac,zd7,zd7,eN,AT,?_⟩;exact⟨eE,v5,seen++[p.arrays[i].name],eE,.inr s5,by rw[hJ,hdr];(try simp only[cW]at *);simp only[ *,cX,bN,bU,Int.reduceEq],hsn2⟩
 .have hie:i=(zeM p).length:=by simp at hb;omega
  unfold ru at hsn;rw[hie,gR]at hJ hsn;rw[ll]at hsn;have hJ':lL [] (zeM p)=false:=hJ;rw[<-hsn]at s2;clear hJ hie hsI hi hsl hsn;clear seen;have c3:∀k,zd3 v k->k<H2.next:=fun k hk=>(s2.lt hk).2
  refine zeL [1,3] [0] 6 p.funcs.length (fun i E H=>∃u seen,E.at 4=u/\eg H u seen H2.next/\eg H v (zeM p) 1/\uk (zeM p) [] p.funcs=uk (zeM p) seen (p.funcs.drop i)/\seen.length=i) eE ⟨.nilS,[],eE,.inl ⟨rfl,rfl⟩,s2,aK,rfl⟩ ?_;rintro i E H4 hi hcE hrH hnH hsI ⟨u,seen,k4',s4,t4,hJ2,hsl⟩;(try simp only[zec,zeb,aX,zdX,zd2,Nat.reduceBEq,Nat.reduceAdd,Nat.reduceLeDiff,tyF, *]at hcE);(try simp only[zec,zeb,aX,zdX,zd2,Nat.reduceBEq,Nat.reduceAdd,Nat.reduceLeDiff,tyF, *]at hrH);(try simp only[zea,zef,zeB,bT,Nat.reduceAdd]at hnH);have hB0:(0 == H4.next)=false:=zeq ac;have hC0:(H4.next == 0)=false:=zeq ac;repeat' (first
   |(apply au ?_;clear hK K)|apply Rx.o ?_|apply ba ?_|(apply aT (fun hb hbp=>?_) (fun hb hbp=>?_)<;>try(cases hb;done))|apply am ?_|(apply zdQ fun K hK=>?_)|(apply zdP 16 [(0,3),(2,3),(5,3),(5,6)] fun K hK=>?_)|(apply zdU ?_;try intro _)|(apply zdV ?_ ?_<;>clear hK K)|apply aH ?_|apply aA ?_|apply zdR ?_|apply aB ?_|apply zdT ?_)
  .have hlt:i<p.funcs.length:=by simpa using hb
   have hgx:p.funcs[i]?=some p.funcs[i]:=br hlt;have hsm:=sg (dX hlt);have hsz:p.funcs[i].sz=1+p.funcs[i].name.length+zfR p.funcs[i].params+zfR p.funcs[i].locals+zep p.funcs[i].body+p.funcs[i].value.sz:=rfl;have hdr:uk (zeM p) seen (p.funcs.drop i)=(ze2 seen p.funcs[i].name||lL (zeM p) (p.funcs[i].params++p.funcs[i].locals)||uk (zeM p) (seen++[p.funcs[i].name]) (p.funcs.drop (i+1))):=ki;repeat' (first
    |(apply au ?_;clear hK K)|apply Rx.o ?_|apply ba ?_|(apply aT (fun hb hbp=>?_) (fun hb hbp=>?_)<;>try(cases hb;done))|apply am ?_|(apply zdQ fun K hK=>?_)|(apply zdP 16 [(0,3),(2,3),(5,3),(5,6)] fun K hK=>?_)|(apply zdU ?_;try intro _)|(apply zdV ?_ ?_<;>clear hK K)|apply aH ?_|apply aA ?_|apply zdR ?_|apply aB ?_|apply zdT ?_)
   generalize hHb:Hp.set (Hp.alloc H4 _) H4.next _=Hb
   have nb:H4.next<Hb.next:=by rw[<-hHb];exact cL _
   have oldb:∀k,k<H4.next->Hb.get k=H4.get k:=fun k hk=>KU
   have gb:Hb.get H4.next=some (.cells p.funcs[i].cells 0 true):=yc
   have gb0:Hb.get 0=some (.cells p.cells 0 true):=by rw[oldb 0 ac];exact hrH
   have s4b:eg Hb u seen H2.next:=s4.keep ac fun k hk=>oldb k (s4.lt hk).2
   have t4b:eg Hb v (zeM p) 1:=t4.keep ac fun k hk=>oldb k (t4.lt hk).2;have nou:¬zd3 u H4.next:=fun h=>by have:=(s4.lt h).2;omega
   clear hHb;refine bA rfl bE bF ?_;simp only[bB];refine bp ?_ (D4 (fun _=>rfl) rfl s4b ac p.funcs[i].name);rintro w H5 ⟨rfl,s5,n5,f5,o5⟩;have m5:Hb.next<=H5.next:=ac
   clear n5;dsimp only[zd4];have g5:H5.get H4.next=some (.cells p.funcs[i].cells 0 true):=by rw[o5 _ nou];exact gb
   have g50:H5.get 0=some (.cells p.cells 0 true):=by rw[f5 0 ac];exact gb0
   have t5:eg H5 v (zeM p) 1:=t4b.keep ac fun k hk=>f5 k (c3 k hk);have e5:(H4.next == H5.next)=false:=cT;repeat' (first
    |(apply au ?_;clear hK K)|apply Rx.o ?_|apply ba ?_|(apply aT (fun hb hbp=>?_) (fun hb hbp=>?_)<;>try(cases hb;done))|apply am ?_|(apply zdQ fun K hK=>?_)|(apply zdP 16 [(0,3),(2,3),(5,3),(5,6)] fun K hK=>?_)|(apply zdU ?_;try intro _)|(apply zdV ?_ ?_<;>clear hK K)|apply aH ?_|apply aA ?_|apply zdR ?_|apply aB ?_|apply zdT ?_)
   .all_goals (refine⟨zdZ,_,zd6,?_⟩;try simp only[zdY])
    rw[px,hJ',hJ2,hdr];(try simp only[cW]at *);simp only[ *,cX,bN,bU,Int.reduceEq]
   have old5:∀k,k<H5.next->(H5.alloc (.cells [.str p.funcs[i].name] 0 true)).get k=H5.get k:=fun k hk=>ez
   have s5b:eg (H5.alloc (.cells [.str p.funcs[i].name] 0 true)) u seen H2.next:=s5.keep (cZ _) fun k hk=>old5 k (s5.lt hk).2
   obtain⟨u6,H6,a6,s6,n6,f6,o6⟩:=xP (r:=H5.next) (imm:=0) p.funcs[i].name s5b fx eR ac;simp only[zea]at n6;have m6:H5.next+2<=H6.next:=ac
   clear n6;have g6:H6.get H4.next=some (.cells p.funcs[i].cells 0 true):=by rw[o6.1 _ fx nou,old5 _ ac];exact g5
   have g60:H6.get 0=some (.cells p.cells 0 true):=by rw[f6 0 ac,old5 _ ac];exact g50
   have t6:eg H6 v (zeM p) 1:=t5.keep ac fun k hk=>by rw[f6 k (c3 k hk),old5 _ (t5.lt hk).2]
   refine ji eV eV (by rw[hkeep];exact a6) ?_;repeat' (first
    |(apply au ?_;clear hK K)|apply Rx.o ?_|apply ba ?_|(apply aT (fun hb hbp=>?_) (fun hb hbp=>?_)<;>try(cases hb;done))|apply am ?_|(apply zdQ fun K hK=>?_)|(apply zdP 16 [(0,3),(2,3),(5,3),(5,6)] fun K hK=>?_)|(apply zdU ?_;try intro _)|(apply zdV ?_ ?_<;>clear hK K)|apply aH ?_|apply aA ?_|apply zdR ?_|apply aB ?_|apply zdT ?_)
   have old6:∀k,k<H6.next->(H6.alloc (.cells [] 0 true)).get k=H6.get k:=fun k hk=>ez
   have s7:ze9 (H6.alloc (.cells [] 0 true)) (.sl H6.next 0 0 1) [] H6.next:=⟨H6.next,0,rfl,ev,aK,aM _,cL _⟩
   have t7:eg (H6.alloc (.cells [] 0 true)) v (zeM p) 1:=t6.keep (cZ _) fun k hk=>old6 k (t6.lt hk).2;obtain⟨w8,H8,a8,s8,n8,f8,o8⟩:=Xv s7 (cZ _) t7 cT;simp only[zea]at n8;have g8:H8.get H4.next=some (.cells p.funcs[i].cells 0 true):=by rw[f8 _ ac,old6 _ ac];exact g6
   have g80:H8.get 0=some (.cells p.cells 0 true):=by rw[f8 0 ac,old6 _ ac];exact g60
   have t8:eg H8 v (zeM p) 1:=t6.keep ac fun k hk=>by rw[f8 k (by have:=(t6.lt hk).2;omega),old6 _ (t6.lt hk).2]
   have u8:ze9 H8 u6 (seen++[p.funcs[i].name]) H2.next:=s6.keep ac fun k hk=>by rw[f8 k (s6.lt hk).2,old6 _ (s6.lt hk).2]
   refine ji eV eV (by rw[hkeep];exact a8) ?_;have e8:(H4.next == H8.next)=false:=cT;repeat' (first
    |(apply au ?_;clear hK K)|apply Rx.o ?_|apply ba ?_|(apply aT (fun hb hbp=>?_) (fun hb hbp=>?_)<;>try(cases hb;done))|apply am ?_|(apply zdQ fun K hK=>?_)|(apply zdP 16 [(0,3),(2,3),(5,3),(5,6)] fun K hK=>?_)|(apply zdU ?_;try intro _)|(apply zdV ?_ ?_<;>clear hK K)|apply aH ?_|apply aA ?_|apply zdR ?_|apply aB ?_|apply zdT ?_)
   have old8:∀k,k<H8.next->(H8.alloc (.cells [] 0 true)).get k=H8.get k:=fun k hk=>ez
   have s9:ze9 (H8.alloc (.cells [] 0 true)) (.sl H8.next 0 0 1) [] H8.next:=⟨H8.next,0,rfl,ev,aK,aM _,cL _⟩
   have g9a:(H8.alloc (.cells [] 0 true)).get H4.next=some (.cells p.funcs[i].cells 0 true):=by rw[old8 _ ac];exact g8
   have g9b:(H8.alloc (.cells [] 0 true)).get H8.next=some (.cells [] 0 true):=eR
   have hpl:=zgm p.funcs[i].params;have hll:=zgm p.funcs[i].locals;obtain⟨w9,H9,a9,s10,n9,f9,_⟩:=vC p.funcs[i].params s9 (cZ _) cT;simp only[zea]at n9;have g9:H9.get H4.next=some (.cells p.funcs[i].cells 0 true):=by rw[f9 _ ac];exact g9a
   refine ji eV eV (by rw[hkeep];exact a9) ?_;repeat' (first
    |(apply au ?_;clear hK K)|apply Rx.o ?_|apply ba ?_|(apply aT (fun hb hbp=>?_) (fun hb hbp=>?_)<;>try(cases hb;done))|apply am ?_|(apply zdQ fun K hK=>?_)|(apply zdP 16 [(0,3),(2,3),(5,3),(5,6)] fun K hK=>?_)|(apply zdU ?_;try intro _)|(apply zdV ?_ ?_<;>clear hK K)|apply aH ?_|apply aA ?_|apply zdR ?_|apply aB ?_|apply zdT ?_)
   obtain⟨w11,H11,a11,s11,n11,f11,_⟩:=vC p.funcs[i].locals s10 ac cT;have g11:H11.get H4.next=some (.cells p.funcs[i].cells 0 true):=by rw[f11 _ ac];exact g9
   refine ji eV eV (by rw[hkeep];exact a11) ?_;repeat' (first
    |(apply au ?_;clear hK K)|apply Rx.o ?_|apply ba ?_|(apply aT (fun hb hbp=>?_) (fun hb hbp=>?_)<;>try(cases hb;done))|apply am ?_|(apply zdQ fun K hK=>?_)|(apply zdP 16 [(0,3),(2,3),(5,3),(5,6)] fun K hK=>?_)|(apply zdU ?_;try intro _)|(apply zdV ?_ ?_<;>clear hK K)|apply aH ?_|apply aA ?_|apply zdR ?_|apply aB ?_|apply zdT ?_)
   .exact eK
   .have old11:∀k,k<H8.next->H11.get k=H8.get k:=fun k hk=>by rw[f11 k hk,f9 k hk,old8 k hk]
    have g110:H11.get 0=some (.cells p.cells 0 true):=by rw[old11 0 ac];exact g80
    have u11:ze9 H11 u6 (seen++[p.funcs[i].name]) H2.next:=u8.keep ac fun k hk=>old11 k (u8.lt hk).2
    have v11:eg H11 v (zeM p) 1:=t8.keep ac fun k hk=>old11 k (t8.lt hk).2;have q11:ze9 H11 w8 (zeM p) H6.next:=s8.keep ac fun k hk=>old11 k (s8.lt hk).2
    have c8:∀k,zd3 w8 k->k<H8.next:=fun k hk=>(s8.lt hk).2
    have cu:∀k,zd3 u6 k->k<H6.next:=fun k hk=>(s6.lt hk).2
    have s11':ze9 H11 w11 (p.funcs[i].params++p.funcs[i].locals) H8.next:=s11
    have hfl:(p.funcs[i].params++p.funcs[i].locals).length<2^38:=cT;have m11:H8.next+1<=H11.next:=ac
    have m8:H6.next+1<=H8.next:=ac
    clear s11 a11 f11 a9 f9 s10 s9 a8 f8 s8 a6 f6 s6 n9 n11 o8 o6 s7 t7 old8 old6 old5 s5b t8 u8 t6 t5 g9 g9a g9b g8 g6 g5 e8 e5;generalize p.funcs[i].params++p.funcs[i].locals=ns at *;have hln:=fun H'=>s11'.len (H':=H');refine zeL [1,3,4,6,7,9] [0] 10 ns.length (fun j E H=>∃w seen2,E.at 8=w/\ze9 H w seen2 H6.next/\(∀k,zd3 w k->¬zd3 w11 k)/\ze9 H w11 ns H8.next/\eg H v (zeM p) 1/\ze9 H u6 (seen++[p.funcs[i].name]) H2.next/\lL (zeM p) ns=lL seen2 (ns.drop j)/\seen2.length=(zeM p).length+j) eE ⟨w8,zeM p,eE,q11,fun k h1 h2=>by have:=c8 k h1;have:=(s11'.lt h2).1;omega,s11',v11,u11,aK,rfl⟩ ?_;rintro j E3 H12 hj hcE hrH hnH hsI ⟨w,seen2,k8,q12,hno,r12,v12,u12,hJ3,hsl2⟩;(try simp only[zec,zeb,aX,zdX,zd2,Nat.reduceBEq,Nat.reduceAdd,Nat.reduceLeDiff,tyF,g110, *]at hcE);(try simp only[zec,zeb,aX,zdX,zd2,Nat.reduceBEq,Nat.reduceAdd,Nat.reduceLeDiff,tyF,g110, *]at hrH);(try simp only[zea,zef,zeB,bT,Nat.reduceAdd]at hnH);have hB0:(0 == H12.next)=false:=zeq ac;have hC0:(H12.next == 0)=false:=zeq ac;repeat' (first
     |(apply au ?_;clear hK K)|apply Rx.o ?_|apply ba ?_|(apply aT (fun hb hbp=>?_) (fun hb hbp=>?_)<;>try(cases hb;done))|apply am ?_|(apply zdQ fun K hK=>?_)|(apply zdP 16 [(0,3),(2,3),(5,3),(5,6)] fun K hK=>?_)|(apply zdU ?_;try intro _)|(apply zdV ?_ ?_<;>clear hK K)|apply aH ?_|apply aA ?_|apply zdR ?_|apply aB ?_|apply zdT ?_)
    .have hlt2:j<ns.length:=by simpa using hb
     obtain⟨q,ia,ld⟩:=r12.at hlt2;have hdr2:lL seen2 (ns.drop j)=(ze2 seen2 ns[j]||lL (seen2++[ns[j]]) (ns.drop (j+1))):=by rw[jl hlt2];rfl
     repeat' (first
      |(apply au ?_;clear hK K)|apply Rx.o ?_|apply ba ?_|(apply aT (fun hb hbp=>?_) (fun hb hbp=>?_)<;>try(cases hb;done))|apply am ?_|(apply zdQ fun K hK=>?_)|(apply zdP 16 [(0,3),(2,3),(5,3),(5,6)] fun K hK=>?_)|(apply zdU ?_;try intro _)|(apply zdV ?_ ?_<;>clear hK K)|apply aH ?_|apply aA ?_|apply zdR ?_|apply aB ?_|apply zdT ?_)
     refine bA rfl bE bF ?_;simp only[bB];refine bp ?_ (D4 (fun _=>rfl) rfl (.inr q12) ac ns[j]);rintro w0 H13 ⟨rfl,s13,n13,f13,o13⟩;have m13:H12.next<=H13.next:=ac
     clear n13;dsimp only[zd4];have g130:H13.get 0=some (.cells p.cells 0 true):=by rw[f13 0 ac];exact hrH
     have r13:ze9 H13 w11 ns H8.next:=r12.keep m13 fun k hk=>o13 k fun h=>hno k h hk
     have v13:eg H13 v (zeM p) 1:=v12.keep m13 fun k hk=>f13 k (by have:=c3 k hk;omega);have u13:ze9 H13 u6 (seen++[p.funcs[i].name]) H2.next:=u12.keep m13 fun k hk=>f13 k (cu k hk)
     clear ia ld;obtain⟨q2,ia2,ld2⟩:=r13.at hlt2;repeat' (first
      |(apply au ?_;clear hK K)|apply Rx.o ?_|apply ba ?_|(apply aT (fun hb hbp=>?_) (fun hb hbp=>?_)<;>try(cases hb;done))|apply am ?_|(apply zdQ fun K hK=>?_)|(apply zdP 16 [(0,3),(2,3),(5,3),(5,6)] fun K hK=>?_)|(apply zdU ?_;try intro _)|(apply zdV ?_ ?_<;>clear hK K)|apply aH ?_|apply aA ?_|apply zdR ?_|apply aB ?_|apply zdT ?_)
     .all_goals (refine⟨zdZ,_,zd6,?_⟩;try simp only[zdY])
      rw[px,hJ',hJ2,hdr,hJ3,hdr2];(try simp only[cW]at *);simp only[ *,cX,bN,bU,Int.reduceEq]
     have old13:∀k,k<H13.next->(H13.alloc (.cells [.str ns[j]] 0 true)).get k=H13.get k:=fun k hk=>ez
     have s13b:eg (H13.alloc (.cells [.str ns[j]] 0 true)) w seen2 H6.next:=s13.keep (cZ _) fun k hk=>old13 k (s13.lt hk).2
     obtain⟨w14,H14,a14,s14,n14,f14,o14⟩:=xP (r:=H13.next) (imm:=0) ns[j] s13b fx eR ac;simp only[zea]at n14;have m14:H13.next+2<=H14.next:=ac
     clear n14;have g140:H14.get 0=some (.cells p.cells 0 true):=by rw[f14 0 ac,old13 _ ac];exact g130
     refine ji eV eV (by rw[hkeep];exact a14) ?_;repeat' (first
      |(apply au ?_;clear hK K)|apply Rx.o ?_|apply ba ?_|(apply aT (fun hb hbp=>?_) (fun hb hbp=>?_)<;>try(cases hb;done))|apply am ?_|(apply zdQ fun K hK=>?_)|(apply zdP 16 [(0,3),(2,3),(5,3),(5,6)] fun K hK=>?_)|(apply zdU ?_;try intro _)|(apply zdV ?_ ?_<;>clear hK K)|apply aH ?_|apply aA ?_|apply zdR ?_|apply aB ?_|apply zdT ?_)
     refine⟨ac,zd7,zd7,eN,Kx,?_⟩;refine⟨w14,seen2++[ns[j]],eE,s14,fun k h1 h2=>?_,?_,?_,?_,Kw,by simp[hsl2];omega⟩
     .have hk:=(r13.lt h2).2;rcases o14.2 k h1 with h3|h3
      .exact hno k h3 h2
      .simp only[zea]at h3;omega
     .refine r13.keep ac fun k hk=>?_;have hl:=(r13.lt hk).2;rw[o14.1 k fx (fun h=>hno k h hk),old13 k hl]
     .exact v13.keep ac fun k hk=>by rw[f14 k (by have:=c3 k hk;omega),old13 k (v13.lt hk).2]
     .exact u13.keep ac fun k hk=>by rw[f14 k (cu k hk),old13 k (u13.lt hk).2]
    .have hje:j=ns.length:=by simp at hb;omega
     rw[hje,gR]at hJ3;have hJ3':lL (zeM p) ns=false:=hJ3;refine⟨ac,zd7,zd7,eN,tW,?_⟩;exact⟨u6,seen++[p.funcs[i].name],eE,.inr u12,v12,by rw[hJ2,hdr,hJ3'];(try simp only[cW]at *);simp only[ *,cX,bN,bU,Int.reduceEq],by simp[hsl]⟩
  .all_goals (refine⟨zdZ,_,zd6,?_⟩;try simp only[zdY])
   have hie:i=p.funcs.length:=AR;rw[hie,gR]at hJ2;have hJ2':uk (zeM p) [] p.funcs=false:=hJ2;rw[px,hJ',hJ2'];rfl)
end
section
def tyR3h.tyF:=ad @eI (ad @dC (ad @eU (ad @iw (ad @iy (ad @gg (ad @fW (ad @DI (ad @jO (ad @kO (ad @hO (@iz)))))))))))
open tyR3h
noncomputable def K1:{c:SC // aS 43 (Tryz.f62.body.getD .skip)=c}:=by
 refine⟨?_,?_⟩;rotate_left
 .simp only[Tryz.f62,cj,aS,zen,zel,zeu,zev,Nat.blt,Nat.ble];rfl
noncomputable def K2:{c:SC // aS 64 (Tryz.f109.body.getD .skip)=c}:=by
 refine⟨?_,?_⟩;rotate_left
 .simp only[Tryz.f109,cj,aS,zen,zel,zeu,zev,Nat.blt,Nat.ble];rfl
structure Sc where
 vars:List (List UInt8)
 arrays:Option (List (List UInt8))
 p:Pr
def Sc.an(x:Sc):List (List UInt8):=x.arrays.getD []
def qi:Option (List (List UInt8))->AV
 |none=>.nilS
 |some l=>fL l
def Sc.cells(x:Sc):List AV:=[fL x.vars,qi x.arrays,.lst (x.p.arrays.map Ar.cells),.lst (x.p.funcs.map Fu.cells)]
def Sc.ok(x:Sc):Prop:=x.vars.length<2^60/\x.an.length<2^60/\x.p.sz<2^60
theorem Sc.c0(x:Sc):x.cells[0]?=some (fL x.vars):=rfl
theorem Sc.c1(x:Sc):x.cells[1]?=some (qi x.arrays):=rfl
theorem Sc.whole(x:Sc):ze6 4 x.cells=some (.agg x.cells):=rfl
def yd:=@Sc.whole
theorem K3(x:Sc):ze6 2 (x.cells.drop 2)=some (.agg x.p.cells):=rfl
theorem Zv(a:Option (List (List UInt8))):fG (qi a):=by
 cases a with
 |none=>exact .nilS
 |some l=>exact xF l
theorem Sc.pure(x:Sc):fX x.cells:=.cons (xF _) (.cons (Zv _) x.p.pure)
theorem Zw{a b:Option (List (List UInt8))}(h:qi a=qi b):a=b:=by
 cases a<;>cases b<;>simp only[qi,reduceCtorEq,AV.lst.injEq]at h
 .rfl
 .rw[xG h]
theorem Sc.inj{x y:Sc}(h:x.cells=y.cells):x=y:=by
 obtain⟨v,a,p⟩:=x;obtain⟨v',a',p'⟩:=y;simp only[Sc.cells,eD,AV.lst.injEq,aX]at h;obtain⟨h1,h2,h3,h4⟩:=h;rw[xG h1,Zw h2,Pr.inj (x:=p) (y:=p') (by simp[Pr.cells,h3,h4])]
section
variable (vs an:List (List UInt8))
def py(x:Ex):Bool:=(!decide (x.kind=2)||ze2 vs x.name)&&(!decide (x.kind=3)||ze2 an x.name)
mutual
def eZ:Ex->Bool
 | .mk k n s o ks=>zfA ks&&py vs an (.mk k n s o ks)
def zfA:List Ex->Bool
 |[]=>true
 |e::es=>eZ e&&zfA es
end
theorem A2(x:Ex):eZ vs an x=(zfA vs an x.kids&&py vs an x):=by cases x;rw[eZ];rfl
end
def og(x:Sc×Ex):List AV:=[.agg x.1.cells,.agg x.2.cells]
theorem A3(x y:Sc×Ex)(h:og x=og y):x=y:=by
 simp only[og,eD,AV.agg.injEq,aX]at h;exact n1 (Sc.inj h.1) (Ex.inj h.2)
theorem A4{l:List En}(hl:∀ar,zeN l 107 ar=qd.sp ar)(a:Option (List (List UInt8)))(ha:(a.getD []).length<2^60)(s:List UInt8)(H:Hp):
 zd5 Tryz.prog (zdW pls l) 107 [qi a,.str s] H fun v H'=>v=.bool (ze2 (a.getD []) s)/\H'=H:=by
 have:=zeJ (P:=Tryz.prog) (pls:=pls) (l:=l) (enc:=qZ) (ok:=fun x=>(x.1.getD []).length<2^60) (out:=fun x=>.bool (ze2 (x.1.getD []) x.2)) D2 (g:=107) (x:=(a,s)) (hl _) ha (H:=H);cases a<;>exact this
theorem Zx(ρ:Nat->Int):∀x:Sc×Ex,(x.1.ok/\x.2.sz<2^60)->bV Tryz.prog ρ 62 (og x) (.bool (eZ x.1.vars x.1.an x.2)):=
 tS fit (pls:=pls) (l:=[qd]) ⟨D3 ρ,trivial⟩ (fun x=>x.2.sz) (ok:=fun x=>x.1.ok/\x.2.sz<2^60) (enc:=og) (out:=fun x=>.bool (eZ x.1.vars x.1.an x.2)) (fun x _=>.cons (.agg x.1.pure) (.cons (.agg x.2.pure) .nil)) (fun x _=>.bool _) (fun x hx=>by
 have hw:=tY (sz:=fun x:Sc×Ex=>x.2.sz) (ok:=fun x=>x.1.ok/\x.2.sz<2^60) (out:=fun x=>.bool (eZ x.1.vars x.1.an x.2)) A3 (f:=62) (l:=[qd]) x;generalize hl:(⟨62,false,cy (fun y=>(y.1.ok/\y.2.sz<2^60)/\y.2.sz<x.2.sz) og fun x=>.bool (eZ x.1.vars x.1.an x.2)⟩:En)::[qd]=l at hw⊢;obtain⟨c,x⟩:=x;obtain⟨hc,hx⟩:=hx;simp only[]at hx hc;have kr:∀y:Ex,y.sz<x.sz->∀H,zd5 Tryz.prog (zdW pls l) 62 [.agg c.cells,.agg y.cells] H fun v H'=>v=.bool (eZ c.vars c.an y)/\H'=H:=fun y h2 H=>by
  subst hl;exact zeJ (enc:=og) (out:=fun x=>.bool (eZ x.1.vars x.1.an x.2)) A3 (x:=(c,y)) rfl ⟨⟨hc,ro⟩,h2⟩
 have kv:∀s H,zd5 Tryz.prog (zdW pls l) 107 [fL c.vars,.str s] H fun v H'=>v=.bool (ze2 c.vars s)/\H'=H:=fun s H=>by
  subst hl;exact A4 (fun _=>rfl) (some c.vars) hc.1 s H
 have ka:∀s H,zd5 Tryz.prog (zdW pls l) 107 [qi c.arrays,.str s] H fun v H'=>v=.bool (ze2 c.an s)/\H'=H:=fun s H=>by
  subst hl;exact A4 (fun _=>rfl) c.arrays hc.2.1 s H
 have hsz:=x.sz_eq;have hlen:=sf x.kids;change zd5 _ _ _ [.agg c.cells,.agg x.cells] _ _;refine zed (M:=43) (rs:=[.tmp 4]) hw.call hw.ice hw.froz Tryz.func62 rfl rfl K1.2 rfl ?_;dsimp only[K1,zd8,Nat.reduceAdd];repeat' (first
  |(apply au ?_;clear hK K)|apply Rx.o ?_|apply eJ ?_|(apply bQ (fun hg hgp=>?_) (fun hg hgp=>?_)<;>try(cases hg;done))|(apply aT (fun hb hbp=>?_) (fun hb hbp=>?_)<;>try(cases hb;done))|apply am ?_|(apply zdQ fun K hK=>?_)|(apply zdP 4 [(0,6),(2,6),(5,6)] fun K hK=>?_)|(apply zdU ?_;try intro _)|(apply zdV ?_ ?_<;>clear hK K)|apply aH ?_|apply aA ?_|apply zdR ?_|apply aB ?_|apply zdT ?_)
 refine zeL [2,3] [0,1] 5 x.kids.length (fun i E H=>zfA c.vars c.an x.kids=zfA c.vars c.an (x.kids.drop i)) eE aK ?_;rintro i E H2 hi hcE hrH hnH hsI hJ;(try simp only[zec,zeb,aX,zdX,zd2,Nat.reduceBEq,Nat.reduceAdd,Nat.reduceLeDiff,tyF, *]at hcE);(try simp only[zec,zeb,aX,zdX,zd2,Nat.reduceBEq,Nat.reduceAdd,Nat.reduceLeDiff,tyF, *]at hrH);(try simp only[zea,zef,zeB,bT,Nat.reduceAdd]at hnH);have hB0:(0 == H2.next)=false:=zeq ac;have hC0:(H2.next == 0)=false:=zeq ac;have hB1:(1 == H2.next)=false:=zeq ac;have hC1:(H2.next == 1)=false:=zeq ac;have gh0:=@Sc.c0;have gh1:=@Sc.c1;have gh2:=@yd;repeat' (first
  |(apply au ?_;clear hK K)|apply Rx.o ?_|(apply eu ?_;first|refine Rx.k (kv _ _) ?_|refine Rx.k (ka _ _) ?_)|apply eJ ?_|(apply bQ (fun hg hgp=>?_) (fun hg hgp=>?_)<;>try(cases hg;done))|(apply aT (fun hb hbp=>?_) (fun hb hbp=>?_)<;>try(cases hb;done))|apply am ?_|(apply zdQ fun K hK=>?_)|(apply zdP 4 [(0,6),(2,6),(5,6)] fun K hK=>?_)|(apply zdU ?_;try intro _)|(apply zdV ?_ ?_<;>clear hK K)|apply aH ?_|apply aA ?_|apply zdR ?_|apply aB ?_|apply zdT ?_)
 .have hlt:i<x.kids.length:=by simpa using hb
  have hgx:x.kids[i]?=some x.kids[i]:=br hlt;have hm:=zgB (dX hlt);have hdr:zfA c.vars c.an (x.kids.drop i)=(eZ c.vars c.an x.kids[i]&&zfA c.vars c.an (x.kids.drop (i+1))):=ki;have gh0:=@yd;repeat' (first
   |(apply au ?_;clear hK K)|apply Rx.o ?_|(apply eu ?_;first|refine Rx.k (kr _ ac _) ?_)|apply eJ ?_|(apply bQ (fun hg hgp=>?_) (fun hg hgp=>?_)<;>try(cases hg;done))|(apply aT (fun hb hbp=>?_) (fun hb hbp=>?_)<;>try(cases hb;done))|apply am ?_|(apply zdQ fun K hK=>?_)|(apply zdP 4 [(0,6),(2,6),(5,6)] fun K hK=>?_)|(apply zdU ?_;try intro _)|(apply zdV ?_ ?_<;>clear hK K)|apply aH ?_|apply aA ?_|apply zdR ?_|apply aB ?_|apply zdT ?_)
  .exact eK
  all_goals (first|(refine⟨zdZ,_,zd6,?_⟩;(try simp only[zdY]);rw[A2,hJ,hdr];(try simp only[cW]at *);simp only[ *,cX,bN,bU,Int.reduceEq];done)|skip)
  refine⟨ac,zd7,zd7,eN,Eg,?_⟩;rw[hJ,hdr];(try simp only[cW]at *);simp only[ *,cX,bN,bU,Int.reduceEq]
 all_goals
  have hie:i=x.kids.length:=ac;rw[hie,gR]at hJ;have hJ':zfA c.vars c.an x.kids=true:=hJ;clear hJ;all_goals (refine⟨zdZ,_,zd6,?_⟩;try simp only[zdY])
  rw[A2,hJ',py];(try simp only[cW]at *);simp only[ *,cX,bN,bU,Int.reduceEq])
def lM(c:Sc)(x:St):Bool:=
 if x.kind=1 then ze2 c.vars x.name
 else if x.kind=6 then ze2 c.vars x.name&&decide (0<=zfc c.p.funcs x.to 0)
 else if x.kind=2 then ze2 c.an x.name
 else true
def jo(c:Sc)(x:St):Bool:=zfA c.vars c.an x.args&&eZ c.vars c.an x.at_&&eZ c.vars c.an x.value&&lM c x
def ye(x:Sc×St):List AV:=[.agg x.1.cells,.agg x.2.cells]
theorem Zy(x y:Sc×St)(h:ye x=ye y):x=y:=by
 simp only[ye,eD,AV.agg.injEq,aX]at h;exact n1 (Sc.inj h.1) (St.inj h.2)
noncomputable def ER:En:=⟨62,true,cy (fun x=>x.1.ok/\x.2.sz<2^60) og fun x=>.bool (eZ x.1.vars x.1.an x.2)⟩
theorem K4(ρ:Nat->Int):zeO Tryz.prog ρ ER:=zeV fun x hx=>Zx ρ x hx
def ul(x:Pr×List UInt8):List AV:=[.agg x.1.cells,.str x.2]
theorem ES(x y:Pr×List UInt8)(h:ul x=ul y):x=y:=by
 simp only[ul,eD,AV.agg.injEq,AV.str.injEq,aX]at h;exact n1 (Pr.inj h.1) h.2
noncomputable def vR:En:=⟨108,false,cy (fun x=>x.1.funcs.length<2^60) ul fun x=>.int .i64 (zfc x.1.funcs x.2 0)⟩
theorem ET(ρ:Nat->Int):zeO Tryz.prog ρ vR:=zeV fun x hx=>Xo ρ x.1 x.2 hx
noncomputable def vT:List En:=[qd,vR,ER]
theorem Zz(ρ:Nat->Int):fH Tryz.prog ρ vT:=⟨D3 ρ,ET ρ,K4 ρ,trivial⟩
theorem ZA(ρ:Nat->Int)(c:Sc)(x:St)(hc:c.ok)(hx:x.sz<2^60):bV Tryz.prog ρ 109 [.agg c.cells,.agg x.cells] (.bool (jo c x)):=zfq fit (pls:=pls) (Zz ρ) (.cons (.agg c.pure) (.cons (.agg x.pure) .nil)) (.bool _) (by
 have hw:Plain (zdW pls vT) 109:=zfv (fun _=>rfl) rfl;have kr:∀y:Ex,y.sz<2^60->∀H,zd5 Tryz.prog (zdW pls vT) 62 [.agg c.cells,.agg y.cells] H fun v H'=>v=.bool (eZ c.vars c.an y)/\H'=H:=fun y h2 H=>zeJ (enc:=og) (out:=fun x=>.bool (eZ x.1.vars x.1.an x.2)) A3 (x:=(c,y)) rfl ⟨hc,h2⟩;have kv:∀s H,zd5 Tryz.prog (zdW pls vT) 107 [fL c.vars,.str s] H fun v H'=>v=.bool (ze2 c.vars s)/\H'=H:=fun s H=>A4 (fun _=>rfl) (some c.vars) hc.1 s H;have ka:∀s H,zd5 Tryz.prog (zdW pls vT) 107 [qi c.arrays,.str s] H fun v H'=>v=.bool (ze2 c.an s)/\H'=H:=fun s H=>A4 (fun _=>rfl) c.arrays hc.2.1 s H;have hpf:c.p.funcs.length<2^60:=by have h:=hc.2.2;have h2:c.p.sz=1+zf2 c.p.arrays+iZ c.p.funcs:=rfl;have:=qQ c.p.funcs;omega
 have kf:∀s H,zd5 Tryz.prog (zdW pls vT) 108 [.agg c.p.cells,.str s] H fun v H'=>v=.int .i64 (zfc c.p.funcs s 0)/\H'=H:=fun s H=>zeJ (enc:=ul) (out:=fun x=>.int .i64 (zfc x.1.funcs x.2 0)) ES (x:=(c.p,s)) rfl hpf;have hsz:=x.sz_eq;have hlen:=sf x.args;refine zed (M:=64) (rs:=[.tmp 4]) (hw.call _) hw.ice hw.froz Tryz.func109 rfl rfl K2.2 rfl ?_;dsimp only[K2,zd8,Nat.reduceAdd];repeat' (first
  |(apply au ?_;clear hK K)|apply Rx.o ?_|(apply bQ (fun hg hgp=>?_) (fun hg hgp=>?_)<;>try(cases hg;done))|(apply aT (fun hb hbp=>?_) (fun hb hbp=>?_)<;>try(cases hb;done))|apply am ?_|(apply zdQ fun K hK=>?_)|(apply zdP 4 [(0,6),(2,6),(5,6)] fun K hK=>?_)|(apply zdU ?_;try intro _)|(apply zdV ?_ ?_<;>clear hK K)|apply aH ?_|apply aA ?_|apply zdR ?_|apply aB ?_|apply zdT ?_)
 refine zeL [2,3] [0,1] 5 x.args.length (fun i E H=>zfA c.vars c.an x.args=zfA c.vars c.an (x.args.drop i)) eE aK ?_;rintro i E H2 hi hcE hrH hnH hsI hJ;(try simp only[zec,zeb,aX,zdX,zd2,Nat.reduceBEq,Nat.reduceAdd,Nat.reduceLeDiff,tyF, *]at hcE);(try simp only[zec,zeb,aX,zdX,zd2,Nat.reduceBEq,Nat.reduceAdd,Nat.reduceLeDiff,tyF, *]at hrH);(try simp only[zea,zef,zeB,bT,Nat.reduceAdd]at hnH);have hB0:(0 == H2.next)=false:=zeq ac;have hC0:(H2.next == 0)=false:=zeq ac;have hB1:(1 == H2.next)=false:=zeq ac;have hC1:(H2.next == 1)=false:=zeq ac;have gh0:=@Sc.c0;have gh1:=@Sc.c1;have gh2:=@yd;have gh3:=@K3;repeat' (first
  |(apply au ?_;clear hK K)|apply Rx.o ?_|(apply eu ?_;first|refine Rx.k (kr _ ac _) ?_|refine Rx.k (kf _ _) ?_|refine Rx.k (kv _ _) ?_|refine Rx.k (ka _ _) ?_)|(apply bQ (fun hg hgp=>?_) (fun hg hgp=>?_)<;>try(cases hg;done))|(apply aT (fun hb hbp=>?_) (fun hb hbp=>?_)<;>try(cases hb;done))|apply am ?_|(apply zdQ fun K hK=>?_)|(apply zdP 4 [(0,6),(2,6),(5,6)] fun K hK=>?_)|(apply zdU ?_;try intro _)|(apply zdV ?_ ?_<;>clear hK K)|apply aH ?_|apply aA ?_|apply zdR ?_|apply aB ?_|apply zdT ?_)
 .have hlt:i<x.args.length:=by simpa using hb
  have hgx:x.args[i]?=some x.args[i]:=br hlt;have hm:=zgB (dX hlt);have hdr:zfA c.vars c.an (x.args.drop i)=(eZ c.vars c.an x.args[i]&&zfA c.vars c.an (x.args.drop (i+1))):=ki;have gh0:=@yd;repeat' (first
   |(apply au ?_;clear hK K)|apply Rx.o ?_|(apply eu ?_;first|refine Rx.k (kr _ ac _) ?_)|(apply bQ (fun hg hgp=>?_) (fun hg hgp=>?_)<;>try(cases hg;done))|(apply aT (fun hb hbp=>?_) (fun hb hbp=>?_)<;>try(cases hb;done))|apply am ?_|(apply zdQ fun K hK=>?_)|(apply zdP 4 [(0,6),(2,6),(5,6)] fun K hK=>?_)|(apply zdU ?_;try intro _)|(apply zdV ?_ ?_<;>clear hK K)|apply aH ?_|apply aA ?_|apply zdR ?_|apply aB ?_|apply zdT ?_)
  .exact eK
  all_goals (first|(refine⟨zdZ,_,zd6,?_⟩;(try simp only[zdY]);rw[jo,hJ,hdr];(try simp only[cW]at *);simp only[ *,cX,bN,bU,Int.reduceEq];done)|skip)
  refine⟨ac,zd7,zd7,eN,EJ,?_⟩;rw[hJ,hdr];(try simp only[cW]at *);simp only[ *,cX,bN,bU,Int.reduceEq]
 all_goals
  have hie:i=x.args.length:=ac;rw[hie,gR]at hJ;have hJ':zfA c.vars c.an x.args=true:=hJ;clear hJ;all_goals (refine⟨zdZ,_,zd6,?_⟩;try simp only[zdY])
  rw[jo,hJ',lM];(try simp only[cW]at *);simp only[ *,cX,bN,bU,Int.reduceEq])
end
section
def tyR3i.tyF:=ad @dC (ad @eU (ad @jO (ad @kO (ad @iw (ad @iy (ad @hO (ad @gg (ad @fW (ad @r7 (ad @iz (ad @DI (ad @K3 (@yd)))))))))))))
open tyR3i
noncomputable def K5:{c:SC // aS 59 (Tryz.f61.body.getD .skip)=c}:=by
 refine⟨?_,?_⟩;rotate_left
 .simp only[Tryz.f61,cj,aS,zen,zel,zeu,zev,Nat.blt,Nat.ble];rfl
def um(p:Pr)(s:List UInt8):Nat:=((p.funcs[(zfc p.funcs s 0).toNat]?).map fun f=>f.params.length).getD 0
def mg(p:Pr)(x:St):Bool:=!(decide (x.kind=6) && !decide ((x.args.length:Int)=um p x.to))
section
variable (c:Sc)
mutual
def hY(b:Bool):St->Bool
 | .mk k nm to n a v args th el=>(bif b then mg c.p (.mk k nm to n a v args th el)else jo c (.mk k nm to n a v args th el))&&zfd b th&&zfd b el
def zfd(b:Bool):List St->Bool
 |[]=>true
 |x::l=>hY b x&&zfd b l
end
theorem yf(b:Bool)(x:St):hY c b x=((bif b then mg c.p x else jo c x)&&zfd c b x.thn&&zfd c b x.els):=by cases x;rw[hY];rfl
end
section
variable (p:Pr)
mutual
def vU:St->Bool
 | .mk k nm to n a v args th el=>(!decide (k=6)||decide (0<=zfc p.funcs to 0))&&mW th&&mW el
def mW:List St->Bool
 |[]=>true
 |x::l=>vU x&&mW l
end
theorem K6(x:St):vU p x=((!decide (x.kind=6)||decide (0<=zfc p.funcs x.to 0))&&mW p x.thn&&mW p x.els):=by cases x;rw[vU];rfl
end
theorem K7{p:Pr}:∀{l:List St}{x:St},mW p l=true->x∈l->vU p x=true
 |[],_,_,h=>by simp at h
 |e::es,x,hc,h=>by
  simp only[mW,cJ]at hc;rcases iu.1 h with rfl|h
  .exact hc.1
  .exact K7 hc.2 h
theorem EU:∀(l:List Fu) (s:List UInt8) (i:Nat),0<=zfc l s i->∃k,k<l.length/\zfc l s i=((i+k:Nat):Int)
 |[],s,i,h=>by simp[zfc]at h
 |f::l,s,i,h=>by
  simp only[zfc]at h⊢;split
  .exact⟨0,aK,aK⟩
  .rename_i hn;rw[ah hn]at h;obtain⟨k,h1,h2⟩:=EU l s (i+1) (by exact h);exact⟨k+1,zk,by rw[show((i:Int)+1)=((i+1:Nat):Int) by omega,h2];omega⟩
theorem ZB{p:Pr}{s:List UInt8}(h:0<=zfc p.funcs s 0):∃g,p.funcs[(zfc p.funcs s 0).toNat]?=some g/\um p s=g.params.length:=by
 obtain⟨k,h1,h2⟩:=EU p.funcs s 0 h;have e:(zfc p.funcs s 0).toNat=k:=by
  have:zfc p.funcs s ((0:Nat):Int)=zfc p.funcs s 0:=rfl;rw[this]at h2;omega
 refine⟨p.funcs[k],?_,?_⟩
 .rw[e];exact br h1
 .unfold um;rw[e,br h1];rfl
theorem Sc.c3(x:Sc):x.cells[3]?=some (.lst (x.p.funcs.map Fu.cells)):=rfl
noncomputable def K8:En:=⟨109,false,cy (fun x=>x.1.ok/\x.2.sz<2^60) ye fun x=>.bool (jo x.1 x.2)⟩
theorem ZC(ρ:Nat->Int):zeO Tryz.prog ρ K8:=zeV fun x hx=>ZA ρ x.1 x.2 hx.1 hx.2
structure Cs where
 c:Sc
 l:List St
 b:Bool
def pz(x:Cs):List AV:=[.agg x.c.cells,.lst (x.l.map St.cells),.bool x.b]
theorem EV(x y:Cs)(h:pz x=pz y):x=y:=by
 obtain⟨a,b,c⟩:=x;obtain⟨a',b',c'⟩:=y;simp only[pz,eD,AV.agg.injEq,AV.lst.injEq,AV.bool.injEq,aX]at h;rw[Sc.inj h.1,Ad h.2.1,h.2.2]
def Cs.ok(x:Cs):Prop:=x.c.ok/\zep x.l<2^60/\(x.b=true->mW x.c.p x.l=true)
noncomputable def EW:List En:=[vR,K8]
theorem ZD(ρ:Nat->Int):fH Tryz.prog ρ EW:=⟨ET ρ,ZC ρ,trivial⟩
def sG(x:Cs):AV:=.bool (zfd x.c x.b x.l)
set_option maxRecDepth 100000 in
theorem ZE(ρ:Nat->Int):∀x:Cs,x.ok->bV Tryz.prog ρ 61 (pz x) (sG x):=
 tS fit (pls:=pls) (ZD ρ) (fun x=>zep x.l) (ok:=Cs.ok) (enc:=pz) (out:=sG) (fun x _=>.cons (.agg x.c.pure) (.cons (xE _) (.cons (.bool _) .nil))) (fun x _=>.bool _) (fun x hx=>by
 have hw:=tY (sz:=fun x:Cs=>zep x.l) (ok:=Cs.ok) (out:=sG) EV (f:=61) (l:=EW) x;generalize hl:(⟨61,false,cy (fun y=>Cs.ok y/\zep y.l<zep x.l) pz sG⟩:En)::EW=l at hw⊢;obtain⟨c,x,b⟩:=x;obtain⟨hc,hx,hcal⟩:=hx;simp only[]at hc hx hcal;have kr:∀y:List St,zep y<zep x->(b=true->mW c.p y=true)->∀H,zd5 Tryz.prog (zdW pls l) 61 [.agg c.cells,.lst (y.map St.cells),.bool b] H fun v H'=>v=.bool (zfd c b y)/\H'=H:=fun y h2 h3 H=>by
  subst hl;exact zeJ (enc:=pz) (out:=sG) EV (x:=⟨c,y,b⟩) rfl ⟨⟨hc,ro,h3⟩,h2⟩
 have kd:∀y:St,y.sz<2^60->∀H,zd5 Tryz.prog (zdW pls l) 109 [.agg c.cells,.agg y.cells] H fun v H'=>v=.bool (jo c y)/\H'=H:=fun y h2 H=>by
  subst hl;exact zeJ (enc:=ye) (out:=fun x=>.bool (jo x.1 x.2)) Zy (x:=(c,y)) rfl ⟨hc,h2⟩
 have hpf:c.p.funcs.length<2^60:=by have h:=hc.2.2;have h2:c.p.sz=1+zf2 c.p.arrays+iZ c.p.funcs:=rfl;have:=qQ c.p.funcs;omega
 have kf:∀s H,zd5 Tryz.prog (zdW pls l) 108 [.agg c.p.cells,.str s] H fun v H'=>v=.int .i64 (zfc c.p.funcs s 0)/\H'=H:=fun s H=>by
  subst hl;exact zeJ (enc:=ul) (out:=fun x=>.int .i64 (zfc x.1.funcs x.2 0)) ES (x:=(c.p,s)) rfl hpf
 have hlen:=tT x;have hplan:∀id,(zdW pls l).plan 61 id=.text:=fun _=>by first|rfl|(simp[zdW,vd,pls])
 change zd5 _ _ _ [.agg c.cells,.lst (x.map St.cells),.bool b] _ _;refine zed (M:=59) (rs:=[.tmp 6]) hw.call hw.ice hw.froz Tryz.func61 rfl rfl K5.2 rfl ?_;dsimp only[K5,zd8,Nat.reduceAdd];repeat' (first
  |(apply au ?_;clear hK K)|apply Rx.o ?_|apply ba ?_|(apply bQ (fun hg hgp=>?_) (fun hg hgp=>?_)<;>try(cases hg;done))|(apply aT (fun hb hbp=>?_) (fun hb hbp=>?_)<;>try(cases hb;done))|apply am ?_|(apply zdQ fun K hK=>?_)|(apply zdP 6 [(1,14),(5,14),(5,21),(6,14),(6,21),(9,14),(9,21),(11,14),(13,14),(17,21),(18,21)] fun K hK=>?_)|(apply zdU ?_;try intro _)|(apply zdV ?_ ?_<;>clear hK K)|apply aH ?_|apply aA ?_|apply zdR ?_|apply aB ?_|apply zdT ?_)
 refine zeL [1,2,3] [0] 7 x.length (fun i E H=>zfd c b x=zfd c b (x.drop i)) eE aK ?_;rintro i E H2 hi hcE hrH hnH hsI hJ;(try simp only[zec,zeb,aX,zdX,zd2,Nat.reduceBEq,Nat.reduceAdd,Nat.reduceLeDiff,tyF, *]at hcE);(try simp only[zec,zeb,aX,zdX,zd2,Nat.reduceBEq,Nat.reduceAdd,Nat.reduceLeDiff,tyF, *]at hrH);(try simp only[zea,zef,zeB,bT,Nat.reduceAdd]at hnH);have hB0:(0 == H2.next)=false:=zeq ac;have hC0:(H2.next == 0)=false:=zeq ac;repeat' (first
  |(apply au ?_;clear hK K)|apply Rx.o ?_|apply ba ?_|(apply bQ (fun hg hgp=>?_) (fun hg hgp=>?_)<;>try(cases hg;done))|(apply aT (fun hb hbp=>?_) (fun hb hbp=>?_)<;>try(cases hb;done))|apply am ?_|(apply zdQ fun K hK=>?_)|(apply zdP 6 [(1,14),(5,14),(5,21),(6,14),(6,21),(9,14),(9,21),(11,14),(13,14),(17,21),(18,21)] fun K hK=>?_)|(apply zdU ?_;try intro _)|(apply zdV ?_ ?_<;>clear hK K)|apply aH ?_|apply aA ?_|apply zdR ?_|apply aB ?_|apply zdT ?_)
 .have hlt:i<x.length:=by simpa using hb
  have hgx:x[i]?=some x[i]:=br hlt;have hsm:=zgw (dX hlt);have hsz:=x[i].sz_eq;have hcl:b=true->vU c.p x[i]=true:=fun h=>K7 (hcal h) (dX hlt);have hdr:zfd c b (x.drop i)=(hY c b x[i]&&zfd c b (x.drop (i+1))):=ki;rw[yf]at hdr;cases b with
  |false=>
   rw[ve]at hdr;repeat' (first
    |(apply au ?_;clear hK K)|apply Rx.o ?_|apply ba ?_|(apply eu ?_;first|refine Rx.k (kd _ ac _) ?_|refine Rx.k (kr _ ac (fun h=>pS) _) ?_)|(apply bQ (fun hg hgp=>?_) (fun hg hgp=>?_)<;>try(cases hg;done))|(apply aT (fun hb hbp=>?_) (fun hb hbp=>?_)<;>try(cases hb;done))|apply am ?_|(apply zdQ fun K hK=>?_)|(apply zdP 6 [(1,14),(5,14),(5,21),(6,14),(6,21),(9,14),(9,21),(11,14),(13,14),(17,21),(18,21)] fun K hK=>?_)|(apply zdU ?_;try intro _)|(apply zdV ?_ ?_<;>clear hK K)|apply aH ?_|apply aA ?_|apply zdR ?_|apply aB ?_|apply zdT ?_)
   all_goals (first|(refine⟨zdZ,_,zd6,?_⟩;(try simp only[zdY]);change _=AV.bool (zfd c _ x);rw[hJ,hdr];(try simp only[cW]at *);simp only[ *,cX,bN,bU,Int.reduceEq];done)|skip)
   refine⟨ac,zd7,zd7,eN,vF,?_⟩;rw[hJ,hdr];(try simp only[cW]at *);simp only[ *,cX,bN,bU,Int.reduceEq]
  |true=>
   rw[cond_true]at hdr;have hcl':=hcl rfl;rw[K6,cJ,cJ]at hcl';obtain⟨⟨hk6,hct⟩,hce⟩:=hcl';by_cases h6:x[i].kind=6
   .have hf0:0<=zfc c.p.funcs x[i].to 0:=by simpa [h6]using hk6
    obtain⟨g,hg6,hpn⟩:=ZB hf0;have gh0:=@Sc.c3;repeat' (first
     |(apply au ?_;clear hK K)|apply Ry.o ?_|apply cD ?_|(apply dq ?_;first|refine Rx.k (kf _ _) ?_|refine Rx.k (kr _ ac (fun _=>hct) _) ?_|refine Rx.k (kr _ ac (fun _=>hce) _) ?_)|(apply bS (fun hg hgp=>?_) (fun hg hgp=>?_)<;>try(cases hg;done))|(apply aV (fun hb hbp=>?_) (fun hb hbp=>?_)<;>try(cases hb;done))|apply am ?_|(apply zdQ fun K hK=>?_)|(apply zdP 6 [(1,14),(5,14),(5,21),(6,14),(6,21),(9,14),(9,21),(11,14),(13,14),(17,21),(18,21)] fun K hK=>?_)|(apply zdU ?_;try intro _)|(apply zdV ?_ ?_<;>clear hK K)|apply aH ?_|(apply lD (fun hg hgp=>?_) (fun hg hgp=>?_)<;>try(cases hg;done))|apply aA ?_|apply zdR ?_|apply aB ?_|apply zdT ?_)
    .exact eK
    all_goals (first|(refine⟨zdZ,_,zd6,?_⟩;(try simp only[zdY]);change _=AV.bool (zfd c _ x);rw[hJ,hdr,mg,hpn];(try simp only[cW]at *);simp only[ *,cX,bN,bU,Int.reduceEq];done)|skip)
    refine⟨ac,zd7,zd7,eN,vF,?_⟩;rw[hJ,hdr,mg,hpn];(try simp only[cW]at *);simp only[ *,cX,bN,bU,Int.reduceEq]
   .have gh0:=@Sc.c3;repeat' (first
     |(apply au ?_;clear hK K)|apply Ry.o ?_|apply cD ?_|(apply dq ?_;first|refine Rx.k (kr _ ac (fun _=>hct) _) ?_|refine Rx.k (kr _ ac (fun _=>hce) _) ?_)|(apply bS (fun hg hgp=>?_) (fun hg hgp=>?_)<;>try(cases hg;done))|(apply aV (fun hb hbp=>?_) (fun hb hbp=>?_)<;>try(cases hb;done))|apply am ?_|(apply zdQ fun K hK=>?_)|(apply zdP 6 [(1,14),(5,14),(5,21),(6,14),(6,21),(9,14),(9,21),(11,14),(13,14),(17,21),(18,21)] fun K hK=>?_)|(apply zdU ?_;try intro _)|(apply zdV ?_ ?_<;>clear hK K)|apply aH ?_|(apply lD (fun hg hgp=>?_) (fun hg hgp=>?_)<;>try(cases hg;done))|apply aA ?_|apply zdR ?_|apply aB ?_|apply zdT ?_)
    .exact eK
    all_goals (first|(refine⟨zdZ,_,zd6,?_⟩;(try simp only[zdY]);change _=AV.bool (zfd c _ x);rw[hJ,hdr,mg];(try simp only[cW]at *);simp only[ *,cX,bN,bU,Int.reduceEq];done)|skip)
    refine⟨ac,zd7,zd7,eN,vF,?_⟩;rw[hJ,hdr,mg];(try simp only[cW]at *);simp only[ *,cX,bN,bU,Int.reduceEq]
 .all_goals (refine⟨zdZ,_,zd6,?_⟩;try simp only[zdY])
  rw[sG,hJ,show i=x.length by simp at hb;omega];simp[zfd])
end
section
def tyR3j.tyF:=ad @eI (ad @dC (ad @eU (ad @jO (ad @kO (ad @iw (ad @iy (ad @hO (ad @gg (ad @fW (ad @r7 (ad @qO (ad @iz (ad @DI (ad @KR (@EP)))))))))))))))
open tyR3j
noncomputable def La:{c:SC // aS 86 (Tryz.f32.body.getD .skip)=c}:=by
 refine⟨?_,?_⟩;rotate_left
 .simp only[Tryz.f32,cj,aS,zen,zel,zeu,zev,Nat.blt,Nat.ble];rfl
theorem ZF{c c':Sc}(h1:c.vars=c'.vars)(h2:c.an=c'.an)(h3:c.p=c'.p)(x:St):jo c x=jo c' x:=by
 unfold jo lM;rw[h1,h2,h3]
mutual
theorem ZG{c c':Sc}(h1:c.vars=c'.vars)(h2:c.an=c'.an)(h3:c.p=c'.p)(b:Bool):∀x:St,hY c b x=hY c' b x
 | .mk k nm to n a v args th el=>by
   simp only[hY,A5 h1 h2 h3 b th,A5 h1 h2 h3 b el,ZF h1 h2 h3,h3]
theorem A5{c c':Sc}(h1:c.vars=c'.vars)(h2:c.an=c'.an)(h3:c.p=c'.p)(b:Bool):∀l:List St,zfd c b l=zfd c' b l
 |[]=>rfl
 |x::l=>by simp only[zfd,ZG h1 h2 h3 b x,A5 h1 h2 h3 b l]
end
def mX(v:AV)(l:List (List UInt8)):Option (List (List UInt8)):=match v with
 | .nilS=>none
 |_=>some l
theorem EX{H:Hp}{v:AV}{l:List (List UInt8)}{lo:Nat}(h:eg H v l lo):(mX v l).getD []=l:=by
 rcases h with⟨rfl,rfl⟩|⟨r,imm,rfl,_⟩<;>rfl
theorem eg.iceO{H:Hp}{v:AV}{l:List (List UInt8)}{lo:Nat}(h:eg H v l lo)(n:Nat):
 ∃H',eY (n+2) v H=some (qi (mX v l),H')/\eg H' v l lo/\H'.next=H.next/\∀k,¬zd3 v k->H'.get k=H.get k:=by
 rcases h with⟨rfl,rfl⟩|h
 .exact⟨H,rfl,.inl ⟨rfl,rfl⟩,rfl,fun _ _=>rfl⟩
 .obtain⟨H',h1,h2,h3,_,h5⟩:=h.ice n;refine⟨H',?_,.inr h2,h3,h5⟩;rw[h1];obtain⟨r,imm,rfl,_⟩:=h;rfl
theorem Lb{H:Hp}{w a:AV}{vs an:List (List UInt8)}{lo lo':Nat}(hw:ze9 H w vs lo)(ha:eg H a an lo')(hd:∀k,zd3 a k->¬zd3 w k)(p:Pr)(n:Nat):
 ∃H',eY (n+3) (.agg [w,a,.lst (p.arrays.map Ar.cells),.lst (p.funcs.map Fu.cells)]) H=some (.agg (Sc.cells ⟨vs,mX a an,p⟩),H')/\ze9 H' w vs lo/\eg H' a an lo'/\H'.next=H.next/\∀k,¬zd3 w k->¬zd3 a k->H'.get k=H.get k:=by
 obtain⟨H1,h1,h2,h3,_,h5⟩:=hw.ice n;have ha1:eg H1 a an lo':=ha.keep ac fun k hk=>h5 k (hd k hk);obtain⟨H2,g1,g2,g3,g5⟩:=ha1.iceO n;refine⟨H2,?_,h2.keep ac fun k hk=>g5 k fun h=>hd k h hk,g2,ac,fun k h h'=>by rw[g5 k h',h5 k h]⟩;have e:eY (n+3) (.agg [w,a,.lst (p.arrays.map Ar.cells),.lst (p.funcs.map Fu.cells)]) H=match jY (eY (n+2)) [w,a,.lst (p.arrays.map Ar.cells),.lst (p.funcs.map Fu.cells)] H with
  |some (ds,H)=>some (.agg ds,H)
  |none=>none:=rfl
 rw[e];simp only[jY,h1,g1];rfl
noncomputable def Lc:En:=⟨61,true,cy Cs.ok pz sG⟩
theorem ZH(ρ:Nat->Int):zeO Tryz.prog ρ Lc:=zeV fun x hx=>ZE ρ x hx
noncomputable def Ld:En:=⟨58,false,cy (fun p=>p.sz<2^36) me fun p=>.bool (kT p)⟩
theorem ZI(ρ:Nat->Int):zeO Tryz.prog ρ Ld:=zeV fun p hp=>Ze ρ p ac
noncomputable def Le:En:=⟨59,false,cy (fun p=>p.sz<2^36) me fun p=>.bool (mV p)⟩
theorem ZJ(ρ:Nat->Int):zeO Tryz.prog ρ Le:=zeV fun p hp=>Zq ρ p hp
noncomputable def Lf:En:=⟨60,false,cy (fun p=>p.sz<2^36) me fun p=>.bool (px p)⟩
theorem ZK(ρ:Nat->Int):zeO Tryz.prog ρ Lf:=zeV fun p hp=>Zu ρ p hp
noncomputable def sH:List En:=[Ld,Le,Lf,Lc,ER]
theorem ZL(ρ:Nat->Int):fH Tryz.prog ρ sH:=⟨ZI ρ,ZJ ρ,ZK ρ,ZH ρ,K4 ρ,trivial⟩
def i4(p:Pr)(f:Fu):Sc:=⟨f.params++f.locals,some (zeM p),p⟩
def km(p:Pr)(f:Fu):Bool:=!(zfd (i4 p f) false f.body&&eZ (i4 p f).vars (i4 p f).an f.value)
def mh(p:Pr)(f:Fu):Bool:=!zfd (i4 p f) true f.body
def zfY(p:Pr):Int:=if kT p=true then 6 else if mV p=false then 2 else if px p=true then 4 else if p.funcs.any (km p)=true then 3 else if p.funcs.any (mh p)=true then 5 else 0
theorem Lg{H:Hp}{w a:AV}{p:Pr}{f:Fu}{lo lo':Nat}(hw:ze9 H w (f.params++f.locals) lo)(ha:eg H a (zeM p) lo')(hd:∀k,zd3 a k->¬zd3 w k)(hz:p.sz<2^60)(hf:f.sz<2^60)(b:Bool)(hb:b=true->mW p f.body=true):
 zd5 Tryz.prog (zdW pls sH) 61 [.agg [w,a,.lst (p.arrays.map Ar.cells),.lst (p.funcs.map Fu.cells)],.lst (f.body.map St.cells),.bool b] H fun v H'=>v=.bool (zfd (i4 p f) b f.body)/\ze9 H' w (f.params++f.locals) lo/\eg H' a (zeM p) lo'/\H.next<=H'.next/\∀k,¬zd3 w k->¬zd3 a k->H'.get k=H.get k:=by
 obtain⟨H',h1,h2,h3,h4,h5⟩:=Lb hw ha hd p 97;have hsz:f.sz=1+f.name.length+zfR f.params+zfR f.locals+zep f.body+f.value.sz:=rfl;have hpl:=zgm f.params;have hll:=zgm f.locals;have hpz:p.sz=1+zf2 p.arrays+iZ p.funcs:=rfl;have hla:=qR p.arrays;have hal:(zeM p).length=p.arrays.length:=by simp[zeM]
 have hok:Cs.ok ⟨⟨f.params++f.locals,mX a (zeM p),p⟩,f.body,b⟩:=⟨⟨cT,KS,hz⟩,ro,hb⟩;refine bp ?_ (DQ (enc:=pz) (out:=sG) EV (x:=⟨⟨f.params++f.locals,mX a (zeM p),p⟩,f.body,b⟩) (fun _=>rfl) rfl hok (H':=H') (fun y _ e=>?_) ?_)
 .rintro v _ ⟨rfl,rfl⟩;refine⟨?_,h2,h3,ac,h5⟩;show AV.bool (zfd ⟨f.params++f.locals,mX a (zeM p),p⟩ b f.body)=_;rw[A5 (c:=⟨f.params++f.locals,mX a (zeM p),p⟩) (c':=i4 p f) rfl (EX ha) rfl]
 .obtain⟨r,imm,rfl,_⟩:=hw;simp[pz,Sc.cells]at e
 .show jY (eY 100) [.agg [w,a,.lst (p.arrays.map Ar.cells),.lst (p.funcs.map Fu.cells)],.lst (f.body.map St.cells),.bool b] H=some (pz ⟨⟨f.params++f.locals,mX a (zeM p),p⟩,f.body,b⟩,H');simp only[jY,h1];rfl
theorem ZM{H:Hp}{w a:AV}{p:Pr}{f:Fu}{lo lo':Nat}(hw:ze9 H w (f.params++f.locals) lo)(ha:eg H a (zeM p) lo')(hd:∀k,zd3 a k->¬zd3 w k)(hz:p.sz<2^60)(hf:f.sz<2^60):
 zd5 Tryz.prog (zdW pls sH) 62 [.agg [w,a,.lst (p.arrays.map Ar.cells),.lst (p.funcs.map Fu.cells)],.agg f.value.cells] H fun v H'=>v=.bool (eZ (i4 p f).vars (i4 p f).an f.value)/\ze9 H' w (f.params++f.locals) lo/\eg H' a (zeM p) lo'/\H.next<=H'.next/\∀k,¬zd3 w k->¬zd3 a k->H'.get k=H.get k:=by
 obtain⟨H',h1,h2,h3,h4,h5⟩:=Lb hw ha hd p 97;have hsz:f.sz=1+f.name.length+zfR f.params+zfR f.locals+zep f.body+f.value.sz:=rfl;have hpl:=zgm f.params;have hll:=zgm f.locals;have hpz:p.sz=1+zf2 p.arrays+iZ p.funcs:=rfl;have hla:=qR p.arrays;have hal:(zeM p).length=p.arrays.length:=by simp[zeM]
 have hok:Sc.ok ⟨f.params++f.locals,mX a (zeM p),p⟩/\f.value.sz<2^60:=⟨⟨cT,KS,hz⟩,ac⟩;refine bp ?_ (DQ (enc:=og) (ok:=fun x=>x.1.ok/\x.2.sz<2^60) (out:=fun x=>.bool (eZ x.1.vars x.1.an x.2)) A3 (x:=(⟨f.params++f.locals,mX a (zeM p),p⟩,f.value)) (fun _=>rfl) rfl hok (H':=H') (fun y _ e=>?_) ?_)
 .rintro v _ ⟨rfl,rfl⟩;refine⟨?_,h2,h3,ac,h5⟩;show AV.bool (eZ (f.params++f.locals) ((mX a (zeM p)).getD []) f.value)=_;rw[EX ha];rfl
 .obtain⟨r,imm,rfl,_⟩:=hw;simp[og,Sc.cells]at e
 .show jY (eY 100) [.agg [w,a,.lst (p.arrays.map Ar.cells),.lst (p.funcs.map Fu.cells)],.agg f.value.cells] H=some (og (⟨f.params++f.locals,mX a (zeM p),p⟩,f.value),H');have he:eY 100 (.agg f.value.cells) H'=some (.agg f.value.cells,H'):=by
   rw[oV];rfl
  simp only[jY,h1,he];rfl
theorem ZN(p:Pr)(r n:Nat):zfy Tryz.prog 116 [(0,.sl r 0 n 1),(2,.agg p.cells)]=some (.agg [.sl r 0 n 1,.nilS,.lst (p.arrays.map Ar.cells),.lst (p.funcs.map Fu.cells)]):=aC
theorem Ba(a b c d:AV):ze6 4 [a,b,c,d]=some (.agg [a,b,c,d]):=rfl
mutual
theorem ZO{c:Sc}:∀x:St,hY c false x=true->vU c.p x=true
 | .mk k nm to n a v args th el,h=>by
   rw[yf,ve,cJ,cJ]at h;obtain⟨⟨h1,h2⟩,h3⟩:=h;rw[K6,Bb _ h2,Bb _ h3];simp only[jo,cJ]at h1;have h4:=h1.2;unfold lM at h4;by_cases h6:(St.mk k nm to n a v args th el).kind=6
   .rw[ah (by rw[h6];decide),aE h6,cJ]at h4;simp only[h4.2,JO,l5]
   .simp only[h6,li,tL,CU,l5]
theorem Bb{c:Sc}:∀l:List St,zfd c false l=true->mW c.p l=true
 |[],_=>rfl
 |x::l,h=>by
  simp only[zfd,cJ]at h;simp only[mW,ZO x h.1,Bb l h.2,l5]
end
set_option maxRecDepth 100000 in
theorem ZP(ρ:Nat->Int)(p:Pr)(hz:p.sz<2^36):bV Tryz.prog ρ 32 [.agg p.cells] (.int .i64 (zfY p)):=zfq fit (pls:=pls) (ZL ρ) (.cons (.agg p.pure) .nil) (.int _ _) (by
 have hw:Plain (zdW pls sH) 32:=zfv (fun _=>rfl) rfl;have hkeep:(zdW pls sH).keep 32=false:=rfl;have ke:∀H,zd5 Tryz.prog (zdW pls sH) 58 [.agg p.cells] H fun v H'=>v=.bool (kT p)/\H'=H:=fun H=>zeJ (enc:=me) (out:=fun p=>.bool (kT p)) x9 (x:=p) rfl hz;have kw:∀H,zd5 Tryz.prog (zdW pls sH) 59 [.agg p.cells] H fun v H'=>v=.bool (mV p)/\H'=H:=fun H=>zeJ (enc:=me) (out:=fun p=>.bool (mV p)) x9 (x:=p) rfl hz;have kd:∀H,zd5 Tryz.prog (zdW pls sH) 60 [.agg p.cells] H fun v H'=>v=.bool (px p)/\H'=H:=fun H=>zeJ (enc:=me) (out:=fun p=>.bool (px p)) x9 (x:=p) rfl hz;have hpz:p.sz=1+zf2 p.arrays+iZ p.funcs:=rfl;have hla:=qR p.arrays;have hlf:=qQ p.funcs;have hal:(zeM p).length=p.arrays.length:=by simp[zeM]
 refine zed (M:=86) (rs:=[.tmp 2]) (hw.call _) hw.ice hw.froz Tryz.func32 rfl rfl La.2 rfl ?_;dsimp only[La,zd8,Nat.reduceAdd];repeat' (first
  |(apply au ?_;clear hK K)|apply Rx.o ?_|apply ba ?_|(apply eu ?_;first|refine Rx.k (ke _) ?_|refine Rx.k (kw _) ?_|refine Rx.k (kd _) ?_)|apply eJ ?_|(apply bQ (fun hg hgp=>?_) (fun hg hgp=>?_)<;>try(cases hg;done))|(apply aT (fun hb hbp=>?_) (fun hb hbp=>?_)<;>try(cases hb;done))|apply am ?_|(apply zdQ fun K hK=>?_)|(apply zdP 18 [(1,9),(3,9),(7,9),(8,9)] fun K hK=>?_)|(apply zdU ?_;try intro _)|(apply zdV ?_ ?_<;>clear hK K)|apply aH ?_|apply zd9 rfl ?_|apply aA ?_|apply zdR ?_|apply aB ?_|apply zdT ?_)
 .all_goals (refine⟨zdZ,_,zd6,?_⟩;try simp only[zdY])
  simp_all[zfY]
 .all_goals (refine⟨zdZ,_,zd6,?_⟩;try simp only[zdY])
  simp_all[zfY]
 .all_goals (refine⟨zdZ,_,zd6,?_⟩;try simp only[zdY])
  simp_all[zfY]
 .refine zeL [1] [0] 3 2 (fun r E H=>(1<=r->p.funcs.any (km p)=false)/\(2<=r->p.funcs.any (mh p)=false)) eE ⟨ac,ac⟩ ?_;rintro r E H2 hr2 hcE hrH hnH hsI ⟨hJ1,hJ2⟩;(try simp only[zec,zeb,aX,zdX,zd2,Nat.reduceBEq,Nat.reduceAdd,Nat.reduceLeDiff,tyF, *]at hcE);(try simp only[zec,zeb,aX,zdX,zd2,Nat.reduceBEq,Nat.reduceAdd,Nat.reduceLeDiff,tyF, *]at hrH);(try simp only[zea,zef,zeB,bT,Nat.reduceAdd]at hnH);have hB0:(0 == H2.next)=false:=zeq ac;have hC0:(H2.next == 0)=false:=zeq ac;repeat' (first
   |(apply au ?_;clear hK K)|apply Rx.o ?_|apply ba ?_|apply eJ ?_|(apply bQ (fun hg hgp=>?_) (fun hg hgp=>?_)<;>try(cases hg;done))|(apply aT (fun hb hbp=>?_) (fun hb hbp=>?_)<;>try(cases hb;done))|apply am ?_|(apply zdQ fun K hK=>?_)|(apply zdP 18 [(1,9),(3,9),(7,9),(8,9)] fun K hK=>?_)|(apply zdU ?_;try intro _)|(apply zdV ?_ ?_<;>clear hK K)|apply aH ?_|apply zd9 rfl ?_|apply aA ?_|apply zdR ?_|apply aB ?_|apply zdT ?_)
  .have hrlt:r<2:=by omega
   refine zeL [1,3] [0] 4 p.funcs.length (fun i E H=>(r=0->p.funcs.any (km p)=(p.funcs.drop i).any (km p))/\(r=1->p.funcs.any (mh p)=(p.funcs.drop i).any (mh p))) eE ⟨aK,aK⟩ ?_;rintro i E3 H3 hi hcE hrH hnH hsI ⟨hU,hB⟩;(try simp only[zec,zeb,aX,zdX,zd2,Nat.reduceBEq,Nat.reduceAdd,Nat.reduceLeDiff,tyF, *]at hcE);(try simp only[zec,zeb,aX,zdX,zd2,Nat.reduceBEq,Nat.reduceAdd,Nat.reduceLeDiff,tyF, *]at hrH);(try simp only[zea,zef,zeB,bT,Nat.reduceAdd]at hnH);have hB0:(0 == H3.next)=false:=zeq ac;have hC0:(H3.next == 0)=false:=zeq ac;repeat' (first
    |(apply au ?_;clear hK K)|apply Rx.o ?_|apply ba ?_|apply eJ ?_|(apply bQ (fun hg hgp=>?_) (fun hg hgp=>?_)<;>try(cases hg;done))|(apply aT (fun hb hbp=>?_) (fun hb hbp=>?_)<;>try(cases hb;done))|apply am ?_|(apply zdQ fun K hK=>?_)|(apply zdP 18 [(1,9),(3,9),(7,9),(8,9)] fun K hK=>?_)|(apply zdU ?_;try intro _)|(apply zdV ?_ ?_<;>clear hK K)|apply aH ?_|apply zd9 rfl ?_|apply aA ?_|apply zdR ?_|apply aB ?_|apply zdT ?_)
   .have hlt:i<p.funcs.length:=by simpa using hb
    have hgx:p.funcs[i]?=some p.funcs[i]:=br hlt;have hsm:=sg (dX hlt);have hsz:p.funcs[i].sz=1+p.funcs[i].name.length+zfR p.funcs[i].params+zfR p.funcs[i].locals+zep p.funcs[i].body+p.funcs[i].value.sz:=rfl;have hpl:=zgm p.funcs[i].params;have hll:=zgm p.funcs[i].locals;repeat' (first
     |(apply au ?_;clear hK K)|apply Rx.o ?_|apply ba ?_|apply eJ ?_|(apply bQ (fun hg hgp=>?_) (fun hg hgp=>?_)<;>try(cases hg;done))|(apply aT (fun hb hbp=>?_) (fun hb hbp=>?_)<;>try(cases hb;done))|apply am ?_|(apply zdQ fun K hK=>?_)|(apply zdP 18 [(1,9),(3,9),(7,9),(8,9)] fun K hK=>?_)|(apply zdU ?_;try intro _)|(apply zdV ?_ ?_<;>clear hK K)|apply aH ?_|apply zd9 rfl ?_|apply aA ?_|apply zdR ?_|apply aB ?_|apply zdT ?_)
    generalize hHb:Hp.set (Hp.alloc H3 _) H3.next _=Hb
    have nb:H3.next+1<=Hb.next:=by rw[<-hHb];exact aM _
    have gb:Hb.get H3.next=some (.cells p.funcs[i].cells 0 true):=yc
    have gb0:Hb.get 0=some (.cells p.cells 0 true):=by rw[<-hHb,bz,ah ac,zd1,ah ac];exact hrH
    clear hHb;refine Ij (id:=14) (ord:=[0,1,2,4,5,7,9,3,6,8,10]) (need:=[(0,7),(2,7),(4,7),(4,8),(5,7),(5,8),(5,10),(6,7),(6,8),(6,10)]) aC aC aC I9 aC fun K hK=>?_;have ebB:(H3.next == Hb.next)=false:=cT;have eb0:(0 == Hb.next)=false:=cT;have eb1:(0 == Hb.next+1)=false:=aK;have eb2:(H3.next == Hb.next+1)=false:=cT;repeat' (first
     |(apply au ?_;clear hK K)|apply Rx.o ?_|apply ba ?_|apply eJ ?_|(apply bQ (fun hg hgp=>?_) (fun hg hgp=>?_)<;>try(cases hg;done))|(apply aT (fun hb hbp=>?_) (fun hb hbp=>?_)<;>try(cases hb;done))|apply am ?_|(apply zdQ fun K hK=>?_)|(apply zdP 18 [(1,9),(3,9),(7,9),(8,9)] fun K hK=>?_)|(apply zdU ?_;try intro _)|(apply zdV ?_ ?_<;>clear hK K)|apply aH ?_|apply zd9 rfl ?_|apply aA ?_|apply zdR ?_|apply aB ?_|apply zdT ?_)
    generalize hHd:(Hb.alloc (.cells [] 0 true)).alloc (.cells [.nilS,.nilS,.nilS,.nilS] 0 true)=Hd;have nd:Hb.next+2<=Hd.next:=by rw[<-hHd];exact aM _
    have ndx:Hd.next<=Hb.next+2:=by rw[<-hHd];exact aM _
    have oldd:∀k,k<Hb.next->Hd.get k=Hb.get k:=fun k hk=>by rw[<-hHd,zd1,ah fx,zd1,ah ac]
    have gd1:Hd.get Hb.next=some (.cells [] 0 true):=by rw[<-hHd,zd1,ah fx,zd1,aE rfl]
    have gds:Hd.get (Hb.next+1)=some (.cells [.nilS,.nilS,.nilS,.nilS] 0 true):=by rw[<-hHd,zd1,aE (show Hb.next+1=(Hb.alloc _).next from rfl)]
    have gdb:Hd.get H3.next=some (.cells p.funcs[i].cells 0 true):=by rw[oldd _ ac];exact gb
    have gd0:Hd.get 0=some (.cells p.cells 0 true):=by rw[oldd _ ac];exact gb0
    clear hHd;have s8:ze9 Hd (.sl Hb.next 0 0 1) [] Hb.next:=⟨Hb.next,0,rfl,gd1,aK,aM _,ac⟩
    have ow8:∀k,zd3 (.sl Hb.next 0 0 1) k->k=Hb.next:=fun k ⟨n,e⟩=>by simp only[AV.sl.injEq]at e;exact e.1.symm
    obtain⟨w9,H9,a9,s9,n9,f9,o9⟩:=vC p.funcs[i].params s8 ac cT;have ow9:∀k,zd3 w9 k->k=Hb.next\/Hb.next+2<=k:=fun k hk=>(o9.2 k hk).elim (fun h=>.inl (ow8 k h)) (fun h=>.inr ac)
    have g9s:H9.get (Hb.next+1)=some (.cells [.nilS,.nilS,.nilS,.nilS] 0 true):=by rw[o9.1 _ ac (fun h=>by have:=ow8 _ h;omega)];exact gds
    have g9b:H9.get H3.next=some (.cells p.funcs[i].cells 0 true):=by rw[o9.1 _ ac (fun h=>by have:=ow8 _ h;omega)];exact gdb
    have g90:H9.get 0=some (.cells p.cells 0 true):=by rw[o9.1 _ ac (fun h=>by have:=ow8 _ h;omega)];exact gd0
    refine ji eV eV (by rw[hkeep];exact a9) ?_;repeat' (first
     |(apply au ?_;clear hK K)|apply Rx.o ?_|apply ba ?_|apply eJ ?_|(apply bQ (fun hg hgp=>?_) (fun hg hgp=>?_)<;>try(cases hg;done))|(apply aT (fun hb hbp=>?_) (fun hb hbp=>?_)<;>try(cases hb;done))|apply am ?_|(apply zdQ fun K hK=>?_)|(apply zdP 18 [(1,9),(3,9),(7,9),(8,9)] fun K hK=>?_)|(apply zdU ?_;try intro _)|(apply zdV ?_ ?_<;>clear hK K)|apply aH ?_|apply zd9 rfl ?_|apply aA ?_|apply zdR ?_|apply aB ?_|apply zdT ?_)
    obtain⟨w11,H11,a11,s11,n11,f11,o11⟩:=vC p.funcs[i].locals s9 ac cT;have ow11:∀k,zd3 w11 k->k=Hb.next\/Hb.next+2<=k:=fun k hk=>(o11.2 k hk).elim (fun h=>ow9 k h) (fun h=>.inr ac)
    have g11s:H11.get (Hb.next+1)=some (.cells [.nilS,.nilS,.nilS,.nilS] 0 true):=by rw[o11.1 _ ac (fun h=>by have:=ow9 _ h;omega)];exact g9s
    have g11b:H11.get H3.next=some (.cells p.funcs[i].cells 0 true):=by rw[o11.1 _ ac (fun h=>by have:=ow9 _ h;omega)];exact g9b
    have g110:H11.get 0=some (.cells p.cells 0 true):=by rw[o11.1 _ ac (fun h=>by have:=ow9 _ h;omega)];exact g90
    refine ji eV eV (by rw[hkeep];exact a11) ?_;have hbs:zfy Tryz.prog 116 [(0,w11),(2,.agg p.cells)]=some (.agg [w11,.nilS,.lst (p.arrays.map Ar.cells),.lst (p.funcs.map Fu.cells)]):=by
     obtain⟨q,imm,hq,_⟩:=s11;rw[hq];exact ZN p _ _
    have hone:=s11.one;have h1o:=hone.1;repeat' (first
     |(apply au ?_;clear hK K)|apply Rx.o ?_|apply ba ?_|apply eJ ?_|(apply bQ (fun hg hgp=>?_) (fun hg hgp=>?_)<;>try(cases hg;done))|(apply aT (fun hb hbp=>?_) (fun hb hbp=>?_)<;>try(cases hb;done))|apply am ?_|(apply zdQ fun K hK=>?_)|(apply zdP 18 [(1,9),(3,9),(7,9),(8,9)] fun K hK=>?_)|(apply zdU ?_;try intro _)|(apply zdV ?_ ?_<;>clear hK K)|apply aH ?_|apply zd9 rfl ?_|apply aA ?_|apply zdR ?_|apply aB ?_|apply zdT ?_)
    .exact eK
    generalize hH12:Hp.set H11 (Hb.next+1) _=H12;have n12:H11.next<=H12.next:=by rw[<-hH12];exact aM _
    have old12:∀k,k≠Hb.next+1->H12.get k=H11.get k:=fun k hk=>by rw[<-hH12,bz,ah hk]
    have g12s:H12.get (Hb.next+1)=some (.cells [w11,.nilS,.lst (p.arrays.map Ar.cells),.lst (p.funcs.map Fu.cells)] 0 true):=by rw[<-hH12,bz,aE rfl]
    have g12b:H12.get H3.next=some (.cells p.funcs[i].cells 0 true):=by rw[old12 _ ac];exact g11b
    have g120:H12.get 0=some (.cells p.cells 0 true):=by rw[old12 _ ac];exact g110
    have s12:ze9 H12 w11 (p.funcs[i].params++p.funcs[i].locals) Hb.next:=s11.keep n12 fun k hk=>old12 k fun e=>by have:=ow11 k hk;omega
    have cw:∀k,zd3 w11 k->k<H12.next:=fun k hk=>(s12.lt hk).2
    have m12:Hb.next+2<=H12.next:=ac
    have hfl:(p.funcs[i].params++p.funcs[i].locals).length<2^38:=cT;clear hH12 old12 s11 a11 o11 f11 a9 o9 f9 s9 s8 gds gdb gd1 gd0 g9s g9b g90 g11s g11b g110 hbs n9 n11 oldd ow9 ow8 gb gb0 hone;have hnoS:∀k,zd3 w11 k->k≠Hb.next+1/\H3.next<k:=fun k hk=>by have:=ow11 k hk;omega
    clear ow11;refine zeL [1,3,4,5,6] [0,H3.next] 7 p.arrays.length (fun j E H=>∃a seen,H.get (Hb.next+1)=some (.cells [w11,a,.lst (p.arrays.map Ar.cells),.lst (p.funcs.map Fu.cells)] 0 true)/\eg H a seen H12.next/\ze9 H w11 (p.funcs[i].params++p.funcs[i].locals) Hb.next/\ru (zeM p) seen j/\AV.one a=true) eE ⟨.nilS,[],g12s,.inl ⟨rfl,rfl⟩,s12,by simp[ru],rfl⟩ ?_;rintro j E4 H4 hj hcE hrH hnH hsI ⟨a,seen,g4s,s4,t4,hsn,hoa⟩;(try simp only[zec,zeb,aX,zdX,zd2,Nat.reduceBEq,Nat.reduceAdd,Nat.reduceLeDiff,tyF,g120,g12b, *]at hcE);(try simp only[zec,zeb,aX,zdX,zd2,Nat.reduceBEq,Nat.reduceAdd,Nat.reduceLeDiff,tyF,g120,g12b, *]at hrH);(try simp only[zea,zef,zeB,bT,Nat.reduceAdd]at hnH);have hB0:(0 == H4.next)=false:=zeq ac;have hC0:(H4.next == 0)=false:=zeq ac;have hB1:(H3.next == H4.next)=false:=zeq ac;have hC1:(H4.next == H3.next)=false:=zeq ac;have hsl:seen.length<=p.arrays.length:=by have:zeM p=seen++(zeM p).drop j:=hsn;have:=lX List.length this;rw[eO]at this;omega
    have hdU:(p.funcs.drop i).any (km p)=(km p p.funcs[i]||(p.funcs.drop (i+1)).any (km p)):=AS;have hdB:(p.funcs.drop i).any (mh p)=(mh p p.funcs[i]||(p.funcs.drop (i+1)).any (mh p)):=AS;have hend:j=(zeM p).length->eg H4 a (zeM p) H12.next:=fun hje=>by
     unfold ru at hsn;rw[hje,gR,ll]at hsn;rw[<-hsn]at s4;exact s4
    have hd:∀k,zd3 a k->¬zd3 w11 k:=fun k h1 h2=>by have:=(s4.lt h1).1;have:=cw k h2;omega
    have hz60:p.sz<2^60:=ac;have hf60:p.funcs[i].sz<2^60:=ac;have nw:∀k,k<=H3.next\/k=Hb.next+1->¬zd3 w11 k:=fun k hk h=>by have:=hnoS k h;omega
    have na:∀k,k<=H3.next\/k=Hb.next+1->¬zd3 a k:=fun k hk h=>by have:=(s4.lt h).1;omega
    have g4b:H4.get H3.next=some (.cells p.funcs[i].cells 0 true):=hrH.2
    have g40:H4.get 0=some (.cells p.cells 0 true):=hrH.1;have gh0:=@Ba;repeat' (first
     |(apply au ?_;clear hK K)|apply Rx.o ?_|apply ba ?_|apply eJ ?_|(apply bQ (fun hg hgp=>?_) (fun hg hgp=>?_)<;>try(cases hg;done))|(apply aT (fun hb hbp=>?_) (fun hb hbp=>?_)<;>try(cases hb;done))|apply am ?_|(apply zdQ fun K hK=>?_)|(apply zdP 18 [(1,9),(3,9),(7,9),(8,9)] fun K hK=>?_)|(apply zdU ?_;try intro _)|(apply zdV ?_ ?_<;>clear hK K)|apply aH ?_|apply zd9 rfl ?_|apply aA ?_|apply zdR ?_|apply aB ?_|apply zdT ?_)
    .have hlt2:j<p.arrays.length:=by simpa using hb
     have hgx2:p.arrays[j]?=some p.arrays[j]:=br hlt2;have hgn:(zeM p)[j]' ac=p.arrays[j].name:=by simp[zeM]
     have hsn2:=K0 ac hsn;rw[hgn]at hsn2;repeat' (first
      |(apply au ?_;clear hK K)|apply Rx.o ?_|apply ba ?_|apply eJ ?_|(apply bQ (fun hg hgp=>?_) (fun hg hgp=>?_)<;>try(cases hg;done))|(apply aT (fun hb hbp=>?_) (fun hb hbp=>?_)<;>try(cases hb;done))|apply am ?_|(apply zdQ fun K hK=>?_)|(apply zdP 18 [(1,9),(3,9),(7,9),(8,9)] fun K hK=>?_)|(apply zdU ?_;try intro _)|(apply zdV ?_ ?_<;>clear hK K)|apply aH ?_|apply zd9 rfl ?_|apply aA ?_|apply zdR ?_|apply aB ?_|apply zdT ?_)
     have old4:∀k,k<H4.next->(H4.alloc (.cells [.str p.arrays[j].name] 0 true)).get k=H4.get k:=fun k hk=>ez
     have g4e:(H4.alloc (.cells [.str p.arrays[j].name] 0 true)).get (Hb.next+1)=some (.cells [w11,a,.lst (p.arrays.map Ar.cells),.lst (p.funcs.map Fu.cells)] 0 true):=by rw[old4 _ ac];exact g4s
     have g40e:(H4.alloc (.cells [.str p.arrays[j].name] 0 true)).get 0=some (.cells p.cells 0 true):=by rw[old4 _ ac];exact hrH.1
     have g4n:(H4.alloc (.cells [.str p.arrays[j].name] 0 true)).get H4.next=some (.cells [.str p.arrays[j].name] 0 true):=eR
     have s4b:eg (H4.alloc (.cells [.str p.arrays[j].name] 0 true)) a seen H12.next:=s4.keep (cZ _) fun k hk=>old4 k (s4.lt hk).2
     obtain⟨a5,H5,q5,s5,n5,f5,o5⟩:=xP (r:=H4.next) (imm:=0) p.arrays[j].name s4b fx g4n ac;simp only[zea]at n5;have m5:H4.next+2<=H5.next:=ac
     clear n5;have g5s:H5.get (Hb.next+1)=some (.cells [w11,a,.lst (p.arrays.map Ar.cells),.lst (p.funcs.map Fu.cells)] 0 true):=by rw[f5 _ ac];exact g4e
     have g5b:H5.get H3.next=some (.cells p.funcs[i].cells 0 true):=by rw[f5 _ ac,old4 _ ac];exact g4b
     have g50:H5.get 0=some (.cells p.cells 0 true):=by rw[f5 _ ac];exact g40e
     have t5:ze9 H5 w11 (p.funcs[i].params++p.funcs[i].locals) Hb.next:=t4.keep ac fun k hk=>by rw[f5 k (cw k hk),old4 k (t4.lt hk).2]
     have h5:=s5.one;have h5o:=h5.1;have h5c:=h5.2;refine ji eV eV (by rw[hkeep];exact q5) ?_;repeat' (first
      |(apply au ?_;clear hK K)|apply Rx.o ?_|apply ba ?_|apply eJ ?_|(apply bQ (fun hg hgp=>?_) (fun hg hgp=>?_)<;>try(cases hg;done))|(apply aT (fun hb hbp=>?_) (fun hb hbp=>?_)<;>try(cases hb;done))|apply am ?_|(apply zdQ fun K hK=>?_)|(apply zdP 18 [(1,9),(3,9),(7,9),(8,9)] fun K hK=>?_)|(apply zdU ?_;try intro _)|(apply zdV ?_ ?_<;>clear hK K)|apply aH ?_|apply zd9 rfl ?_|apply aA ?_|apply zdR ?_|apply aB ?_|apply zdT ?_)
     .exact eK
     generalize hH6:Hp.set H5 (Hb.next+1) _=H6;have n6:H5.next<=H6.next:=by rw[<-hH6];exact aM _
     have old6:∀k,k≠Hb.next+1->H6.get k=H5.get k:=fun k hk=>by rw[<-hH6,bz,ah hk]
     have g6s:H6.get (Hb.next+1)=some (.cells [w11,a5,.lst (p.arrays.map Ar.cells),.lst (p.funcs.map Fu.cells)] 0 true):=by rw[<-hH6,bz,aE rfl]
     have g60:H6.get 0=some (.cells p.cells 0 true):=by rw[old6 _ ac];exact g50
     have g6b:H6.get H3.next=some (.cells p.funcs[i].cells 0 true):=by rw[old6 _ ac];exact g5b
     clear hH6;refine⟨ac,zd7,zd7,eN,AT,?_⟩;exact⟨a5,seen++[p.arrays[j].name],g6s,.inr (s5.keep n6 fun k hk=>old6 k EQ),t5.keep n6 (fun k hk=>old6 k (hnoS k hk).1),hsn2,h5o⟩
    .have hr0:r=0:=by omega
     have s4':=hend ac;refine bA rfl bE bF ?_;simp only[bB];refine bp ?_ (Lg t4 s4' hd hz60 hf60 false aK);rintro v0 H5 ⟨rfl,t5,s5,m5,o5⟩;dsimp only[zd4];have g5s:H5.get (Hb.next+1)=some (.cells [w11,a,.lst (p.arrays.map Ar.cells),.lst (p.funcs.map Fu.cells)] 0 true):=KV;have g5b:H5.get H3.next=some (.cells p.funcs[i].cells 0 true):=KW
     have g50:H5.get 0=some (.cells p.cells 0 true):=KX;have hd5:∀k,zd3 a k->¬zd3 w11 k:=hd;have gh0:=@Ba;repeat' (first
      |(apply au ?_;clear hK K)|apply Rx.o ?_|apply ba ?_|apply eJ ?_|(apply bQ (fun hg hgp=>?_) (fun hg hgp=>?_)<;>try(cases hg;done))|(apply aT (fun hb hbp=>?_) (fun hb hbp=>?_)<;>try(cases hb;done))|apply am ?_|(apply zdQ fun K hK=>?_)|(apply zdP 18 [(1,9),(3,9),(7,9),(8,9)] fun K hK=>?_)|(apply zdU ?_;try intro _)|(apply zdV ?_ ?_<;>clear hK K)|apply aH ?_|apply zd9 rfl ?_|apply aA ?_|apply zdR ?_|apply aB ?_|apply zdT ?_)
     .refine bA rfl bE bF ?_;simp only[bB];refine bp ?_ (ZM t5 s5 hd5 hz60 hf60);rintro v0 H6 ⟨rfl,t6,s6,m6,o6⟩;dsimp only[zd4];have g6s:H6.get (Hb.next+1)=some (.cells [w11,a,.lst (p.arrays.map Ar.cells),.lst (p.funcs.map Fu.cells)] 0 true):=by rw[o6 _ (nw _ ac) (na _ ac)];exact g5s
      have g6b:H6.get H3.next=some (.cells p.funcs[i].cells 0 true):=by rw[o6 _ (nw _ ac) (na _ ac)];exact g5b
      have g60:H6.get 0=some (.cells p.cells 0 true):=by rw[o6 _ (nw _ ac) (na _ ac)];exact g50
      have gh0:=@Ba;repeat' (first
       |(apply au ?_;clear hK K)|apply Rx.o ?_|apply ba ?_|apply eJ ?_|(apply bQ (fun hg hgp=>?_) (fun hg hgp=>?_)<;>try(cases hg;done))|(apply aT (fun hb hbp=>?_) (fun hb hbp=>?_)<;>try(cases hb;done))|apply am ?_|(apply zdQ fun K hK=>?_)|(apply zdP 18 [(1,9),(3,9),(7,9),(8,9)] fun K hK=>?_)|(apply zdU ?_;try intro _)|(apply zdV ?_ ?_<;>clear hK K)|apply aH ?_|apply zd9 rfl ?_|apply aA ?_|apply zdR ?_|apply aB ?_|apply zdT ?_)
      .all_goals (refine⟨zdZ,_,zd6,?_⟩;try simp only[zdY])
       have hu:p.funcs.any (km p)=true:=KT;rw[zfY,hu];(try simp only[cW]at *);simp only[reduceCtorEq,eq_self, *,cX,bN,bU,Int.reduceEq]
      .refine⟨ac,zd7,zd7,eN,tW,?_⟩;refine⟨fun _=>?_,fun h=>ac⟩;rw[hU hr0,hdU,km];(try simp only[cW]at *);simp only[ *,cX,bN,bU,Int.reduceEq]
     .all_goals (refine⟨zdZ,_,zd6,?_⟩;try simp only[zdY])
      have hu:p.funcs.any (km p)=true:=KT;rw[zfY,hu];(try simp only[cW]at *);simp only[reduceCtorEq,eq_self, *,cX,bN,bU,Int.reduceEq]
    .have hr1:r=1:=by omega
     have s4':=hend ac;have hJ1':=hJ1 ac;have hcal:mW p p.funcs[i].body=true:=by
      have hu:km p p.funcs[i]=false:=by
       have:=List.any_eq_false.1 hJ1' _ (dX hlt);simpa using this
      unfold km at hu;rw[Ek,cJ]at hu;exact Bb _ hu.1
     refine bA rfl bE bF ?_;simp only[bB];refine bp ?_ (Lg t4 s4' hd hz60 hf60 true (fun _=>hcal));rintro v0 H5 ⟨rfl,t5,s5,m5,o5⟩;dsimp only[zd4];have g5s:H5.get (Hb.next+1)=some (.cells [w11,a,.lst (p.arrays.map Ar.cells),.lst (p.funcs.map Fu.cells)] 0 true):=KV;have g5b:H5.get H3.next=some (.cells p.funcs[i].cells 0 true):=KW
     have g50:H5.get 0=some (.cells p.cells 0 true):=KX;have gh0:=@Ba;repeat' (first
      |(apply au ?_;clear hK K)|apply Rx.o ?_|apply ba ?_|apply eJ ?_|(apply bQ (fun hg hgp=>?_) (fun hg hgp=>?_)<;>try(cases hg;done))|(apply aT (fun hb hbp=>?_) (fun hb hbp=>?_)<;>try(cases hb;done))|apply am ?_|(apply zdQ fun K hK=>?_)|(apply zdP 18 [(1,9),(3,9),(7,9),(8,9)] fun K hK=>?_)|(apply zdU ?_;try intro _)|(apply zdV ?_ ?_<;>clear hK K)|apply aH ?_|apply zd9 rfl ?_|apply aA ?_|apply zdR ?_|apply aB ?_|apply zdT ?_)
     .all_goals (refine⟨zdZ,_,zd6,?_⟩;try simp only[zdY])
      have hu:p.funcs.any (mh p)=true:=by rw[hB hr1,hdB,mh];(try simp only[cW]at *);simp only[ *,cX,bN,bU,Int.reduceEq]
      rw[zfY,hJ1',hu];(try simp only[cW]at *);simp only[reduceCtorEq,eq_self, *,cX,bN,bU,Int.reduceEq]
     .refine⟨ac,zd7,zd7,eN,tW,?_⟩;refine⟨fun h=>ac,fun _=>?_⟩;rw[hB hr1,hdB,mh];(try simp only[cW]at *);simp only[ *,cX,bN,bU,Int.reduceEq]
    .omega
   .have hie:i=p.funcs.length:=by simp at hb;omega
    rw[hie,gR]at hU hB;refine⟨ac,zd7,zd7,eN,KY,?_⟩;refine⟨fun h=>?_,fun h=>?_⟩
    .by_cases h0:r=0
     .rw[hU h0];rfl
     .exact hJ1 ac
    .rw[hB ac];rfl
  .all_goals (refine⟨zdZ,_,zd6,?_⟩;try simp only[zdY])
   have hr:r=2:=ac;subst hr;have h1:=hJ1 ac;have h2:=hJ2 ac;rw[zfY];(try simp only[cW]at *);simp only[reduceCtorEq,eq_self, *,cX,bN,bU,Int.reduceEq])
end
section
def tyG1.tyF:=ad @dC (ad @eI (ad @UQ (ad @eU (ad @iy (ad @rZ (@oT))))))
open tyG1
noncomputable def Lh:{c:SC // aS 14 (Tryz.f12.body.getD .skip)=c}:=by
 refine⟨?_,?_⟩;rotate_left
 .simp only[Tryz.f12,cj,aS,zen,zel,zeu,zev,Nat.blt,Nat.ble];rfl
noncomputable def Li:{c:SC // aS 25 (Tryz.f37.body.getD .skip)=c}:=by
 refine⟨?_,?_⟩;rotate_left
 .simp only[Tryz.f37,cj,aS,zen,zel,zeu,zev,Nat.blt,Nat.ble];rfl
noncomputable def Lk:{c:SC // aS 7 (Tryz.f85.body.getD .skip)=c}:=by
 refine⟨?_,?_⟩;rotate_left
 .simp only[Tryz.f85,cj,aS,zen,zel,zeu,zev,Nat.blt,Nat.ble];rfl
def zei(n m:Int):Int:=if n.tmod m<0 then cq (n.tmod m+m)else n.tmod m
theorem zfP{n m:Int}(h:0<m)(h2:m<2^62):0<=zei n m/\zei n m<m:=by
 unfold zei;have h3:=uj n h;have h4:-m<n.tmod m:=by
  have:=uj (-n) h;rw[Int.neg_tmod]at this;omega
 split
 .unfold cq;rw[tx _ ac];omega
 .omega
def pA(x:Int×Int):List AV:=[.int .i64 x.1,.int .i64 x.2]
theorem Ll(x y:Int×Int)(h:pA x=pA y):x=y:=by
 simp only[pA,eD,AV.int.injEq,lH]at h;exact n1 h.1 h.2
theorem ZQ(ρ:Nat->Int)(x:Int×Int)(hx:x.2≠0):bV Tryz.prog ρ 12 (pA x) (.int .i64 (zei x.1 x.2)):=zfq fit (pls:=pls) (l:=[]) trivial (.cons (.int _ _) (.cons (.int _ _) .nil)) (.int _ _) (by
 have hw:=jm 12;obtain⟨n,m⟩:=x;rw[pA];simp only[]at hx⊢;refine zed (M:=14) (rs:=[.tmp 4]) (hw.call _) hw.ice hw.froz Tryz.func12 rfl rfl Lh.2 rfl ?_;dsimp only[Lh,zd8,Nat.reduceAdd];repeat' (first
  |(apply au ?_;clear hK K)|apply Rx.o ?_|(apply aT (fun hb hbp=>?_) (fun hb hbp=>?_)<;>try(cases hb;done))|apply am ?_|(apply zdQ fun K hK=>?_)|apply zdR ?_|apply aB ?_)
 all_goals (refine⟨zdZ,_,zd6,?_⟩;try simp only[zdY])
 all_goals (simp_all[zei];try omega))
noncomputable def lN:En:=⟨12,false,cy (fun x=>x.2≠0) pA fun x=>.int .i64 (zei x.1 x.2)⟩
theorem vV(ρ:Nat->Int):zeO Tryz.prog ρ lN:=zeV fun x hx=>ZQ ρ x hx
theorem zfZ{l:List En}(hl:∀ar,zeN l 12 ar=lN.sp ar)(n m:Int)(hm:m≠0)(H:Hp):zd5 Tryz.prog (zdW pls l) 12 [.int .i64 n,.int .i64 m] H fun v H'=>v=.int .i64 (zei n m)/\H'=H:=
 zeJ (enc:=pA) (ok:=fun x=>x.2≠0) (out:=fun x=>.int .i64 (zei x.1 x.2)) Ll (x:=(n,m)) (hl _) hm
def sI:List Int:=[0,1,-1,2,-9223372036854775808,9223372036854775807,4294967296,-2147483648,63,64]
def mY(n raw:Int):Int:=if zei n 24<10 then sI.getD (zei n 24).toNat 0 else if zei n 24<22 then cq (zei (cq (n.tdiv 24)) 17-6)else raw
theorem ZR(H:Hp):zfn Tryz.prog H 71 10 [(0,.int .i64 0),(1,.int .i64 1),(2,.int .i64 (-1)),(3,.int .i64 2),(4,.int .i64 (-9223372036854775808)),(5,.int .i64 9223372036854775807),(6,.int .i64 4294967296),(7,.int .i64 (-2147483648)),(8,.int .i64 63),(9,.int .i64 64)]=some (.sl H.next 0 10 1,H.alloc (.cells (sI.map fun n=>.int .i64 n) 0 true)):=aC
theorem ZS(ρ:Nat->Int)(x:Int×Int):bV Tryz.prog ρ 37 (pA x) (.int .i64 (mY x.1 x.2)):=zfq fit (pls:=pls) (l:=[lN]) ⟨vV ρ,trivial⟩ (.cons (.int _ _) (.cons (.int _ _) .nil)) (.int _ _) (by
 have hw:Plain (zdW pls [lN]) 37:=zfv (fun _=>rfl) rfl;obtain⟨n,m⟩:=x;have hr:=zfP (n:=n) (m:=24) ac ac;have hp:0<=zei n 24:=hr.1;rw[pA];simp only[];have hq:(24:Int)≠0:=aY;refine zed (M:=25) (rs:=[.tmp 4]) (hw.call _) hw.ice hw.froz Tryz.func37 rfl rfl Li.2 rfl ?_;dsimp only[Li,zd8,Nat.reduceAdd];have gh0:=@ZR;repeat' (first
  |(apply au ?_;clear hK K)|apply Rx.o ?_|(apply eu ?_;first|refine Rx.k (zfZ (fun _=>rfl) _ _ aY _) ?_)|(apply aT (fun hb hbp=>?_) (fun hb hbp=>?_)<;>try(cases hb;done))|apply am ?_|(apply zdQ fun K hK=>?_)|apply aA ?_|apply zdR ?_|apply aB ?_)
 .have hlt:(zei n 24).toNat<10:=by omega
  have hg:sI[(zei n 24).toNat]?=some (sI.getD (zei n 24).toNat 0):=by
   rw[dM,br (by simpa [sI]using hlt)];rfl
  repeat' (first
   |(apply au ?_;clear hK K)|apply Ry.o ?_|apply am ?_|(apply zdQ fun K hK=>?_)|apply aA ?_|apply zdR ?_|apply aB ?_)
  all_goals (refine⟨zdZ,_,zd6,?_⟩;try simp only[zdY])
  rw[mY,aE gC]
 .all_goals (refine⟨zdZ,_,zd6,?_⟩;try simp only[zdY])
  rw[mY,ah gC,aE gC]
 .all_goals (refine⟨zdZ,_,zd6,?_⟩;try simp only[zdY])
  rw[mY,ah gC,ah gC])
noncomputable def yg:En:=⟨37,false,cy (fun _=>True) pA fun x=>.int .i64 (mY x.1 x.2)⟩
theorem Lm(ρ:Nat->Int):zeO Tryz.prog ρ yg:=zeV fun x hx=>ZS ρ x
theorem Ln{l:List En}(hl:∀ar,zeN l 37 ar=yg.sp ar)(n m:Int)(H:Hp):zd5 Tryz.prog (zdW pls l) 37 [.int .i64 n,.int .i64 m] H fun v H'=>v=.int .i64 (mY n m)/\H'=H:=
 zeJ (enc:=pA) (ok:=fun _=>True) (out:=fun x=>.int .i64 (mY x.1 x.2)) Ll (x:=(n,m)) (hl _) trivial
def zeD(f:Int):List (List UInt8):=if f=0 then [[120],[121],[105],[106]]else [[110],[105]]
theorem rv(f:Int):(zeD f).length=4\/(zeD f).length=2:=by unfold zeD;split<;>simp
theorem ZT(H:Hp)(a b c d:List UInt8):zfn Tryz.prog H 59 4 [(0,.str a),(1,.str b),(2,.str c),(3,.str d)]=some (.sl H.next 0 4 1,H.alloc (.cells [.str a,.str b,.str c,.str d] 0 true)):=aC
theorem yh(H:Hp)(a b:List UInt8):zfn Tryz.prog H 59 2 [(0,.str a),(1,.str b)]=some (.sl H.next 0 2 1,H.alloc (.cells [.str a,.str b] 0 true)):=aC
theorem ZU(ρ:Nat->Int)(f:Int):bV Tryz.prog ρ 85 [.int .i64 f] (fL (zeD f)):=se (m:=3) (cfg:=zdW pls []) fit (ly ρ) (fun f args r h=>by simp[zdW,zeN]at h) (.cons (.int _ _) .nil) (by
 have hw:=jm 85;refine zed (M:=7) (rs:=[.tmp 2]) (hw.call _) hw.ice hw.froz Tryz.func85 rfl rfl Lk.2 rfl ?_;dsimp only[Lk,zd8,Nat.reduceAdd];have gh0:=@ZT;have gh1:=@yh;repeat' (first
  |(apply au ?_;clear hK K)|apply Rx.o ?_|(apply aT (fun hb hbp=>?_) (fun hb hbp=>?_)<;>try(cases hb;done))|apply am ?_|(apply zdQ fun K hK=>?_)|apply zdR ?_|apply aB ?_)
 .all_goals (refine⟨zdZ,_,zd6,?_⟩;try simp only[zdY])
  rw[zeD,aE gC];rfl
 .all_goals (refine⟨zdZ,_,zd6,?_⟩;try simp only[zdY])
  rw[zeD,ah gC];rfl)
noncomputable def Bc:En:=⟨85,false,cy (fun _=>True) (fun n:Int=>[.int .i64 n]) fun f=>fL (zeD f)⟩
theorem ZV(ρ:Nat->Int):zeO Tryz.prog ρ Bc:=zeV fun x hx=>ZU ρ x
theorem Lo{l:List En}(hl:∀ar,zeN l 85 ar=Bc.sp ar)(f:Int)(H:Hp):zd5 Tryz.prog (zdW pls l) 85 [.int .i64 f] H fun v H'=>v=fL (zeD f)/\H'=H:=
 zeJ (enc:=fun n:Int=>[.int .i64 n]) (ok:=fun _=>True) (out:=fun f=>fL (zeD f)) KH (x:=f) (hl _) trivial
end
def vW(op:Int):Int:=if op=27\/op=28\/op=29 then 2 else 1
def pB(op k:Int):Int:=if k=0/\(vW op=2\/op=23\/op=24)then 2 else 1
theorem ZW(op k:Int):pB op k=1\/pB op k=2:=by unfold pB;split<;>simp
def kq(s:List Int)(t:Int):Nat->List Int
 |0=>[]
 |i+1=>if s.getD i 0=t then kq s t i++[(i:Int)]else kq s t i
theorem EY(s:List Int)(t:Int):∀i,(kq s t i).length<=i
 |0=>aM _
 |i+1=>by
  have:=EY s t i;rw[kq];split
  .rw[eO,A0];omega
  .omega
theorem EZ{s:List Int}{t:Int}{k:Nat}(h:s.getD k 0=t):∀{i:Nat},k<i->0<(kq s t i).length
 |0,hk=>by omega
 |i+1,hk=>by
  rw[kq];by_cases e:k=i
  .subst e;rw[aE h,eO,A0];omega
  .have:=EZ h (i:=i) ac;split
   .rw[eO];omega
   .exact this
def sJ(l:List Nd)(t n:Int):Int:=
 (kq (zew l l.length) t l.length).getD ((kq (zew l l.length) t l.length).length-1-(zei n (kq (zew l l.length) t l.length).length).toNat) 0
def mZ(values:Bool)(n:Int):Int:=if values=false/\5<zei n 9 then [23,27,28,29,24].getD (zei (cq (n.tdiv 9)) 5).toNat 0 else 4+zei n 19
def zfB(n:Int):Nat->Int
 |0=>cq (n.tdiv 7)
 |1=>cq (n.tdiv 101)
 |2=>cq (n.tdiv 1009)
 |_=>0
def lO(out:List Nd)(op n:Int):Nat->List Int
 |0=>[]
 |j+1=>lO out op n j++[sJ out (pB op j) (zfB n j)]
def Lp(op n:Int):Int:=if op=27 then 1+zei (cq (n.tdiv 5)) 2 else if op=23\/op=28 then zei (cq (n.tdiv 5)) 2 else 0
def pC(out:List Nd)(values:Bool)(n:Int):Nd:=
 if zei n 11=0 then ⟨1,mY (cq (n.tdiv 11)) n,[]⟩else ⟨mZ values n,Lp (mZ values n) n,lO out (mZ values n) n (bH (mZ values n)).1.toNat⟩
def qj(l:List Nd)(x:Nd):Bool:=l.any fun y=>decide (y=x)
def qk(out:List Nd)(x:Nd):List Nd:=if qj out x=true then out else out++[x]
def lP:List Nd:=[⟨2,0,[]⟩,⟨2,1,[]⟩,⟨26,0,[]⟩]
def zfj(l:List Int)(values:Bool):Nat->List Nd
 |0=>lP
 |i+1=>qk (zfj l values i) (pC (zfj l values i) values (l.getD i 0))
def jD(l:List Int)(values:Bool):List Nd:=zfj l values (min l.length 14)
theorem E7(out:List Nd)(op n:Int):∀j,(lO out op n j).length=j
 |0=>rfl
 |j+1=>by rw[lO,eO,E7 out op n j];rfl
theorem Lq(op:Int):(bH op).1<=3:=by
 unfold bH;repeat' split
 all_goals decide
theorem ZX(out:List Nd)(values:Bool)(n:Int):(pC out values n).kids.length<=3:=by
 unfold pC;split
 .exact dE _
 .show(lO _ _ _ _).length<=3;rw[E7];have:=Lq (mZ values n);omega
theorem ZY(out:List Nd)(x:Nd):(qk out x).length<=out.length+1:=by
 unfold qk;split
 .omega
 .rw[eO];exact aM _
theorem Be(l:List Int)(values:Bool):∀i,(zfj l values i).length<=3+i
 |0=>aM _
 |i+1=>by
  have:=Be l values i;have:=ZY (zfj l values i) (pC (zfj l values i) values (l.getD i 0));rw[zfj];omega
theorem E8(l:List Int)(values:Bool):∀i,∃r,zfj l values i=lP++r
 |0=>⟨[],rfl⟩
 |i+1=>by
  obtain⟨r,h⟩:=E8 l values i;rw[zfj];unfold qk;split
  .exact⟨r,h⟩
  .exact⟨r++[pC (zfj l values i) values (l.getD i 0)],by rw[<-kH,<-h]⟩
def E9(c:Nat)(l:List Nd):Prop:=∀n∈l,n.kids.length<=c
theorem Bf(l:List Int)(values:Bool):∀i,E9 3 (zfj l values i)
 |0=>by intro n hn;simp only[zfj,lP,jC]at hn;rcases hn with rfl|rfl|rfl<;>simp
 |i+1=>by
  intro n hn;rw[zfj]at hn;unfold qk at hn;split at hn
  .exact Bf l values i n hn
  .rcases mI.1 hn with hn|hn
   .exact Bf l values i n hn
   .rw[A1]at hn;subst hn;exact ZX _ _ _
theorem ZZ(r:List Nd):(zew (lP++r) (lP++r).length).getD 0 0=1/\(zew (lP++r) (lP++r).length).getD 2 0=2:=by
 have hl:(lP++r).length=3+r.length:=by rw[eO];rfl
 rw[t0 (j:=0) ac (aM _),t0 (j:=2) ac (aM _)];have h0:=Au (l:=lP) (m:=r) (i:=0) aY;have h2:=Au (l:=lP) (m:=r) (i:=2) aY;have e0:zeY lP 0=1:=aY;have e2:zeY lP 2=2:=aY;exact⟨h0.trans e0,h2.trans e2⟩
theorem Z0{l:List Nd}(h:∃r,l=lP++r){t:Int}(ht:t=1\/t=2):0<(kq (zew l l.length) t l.length).length:=by
 obtain⟨r,rfl⟩:=h;have hl:(lP++r).length=3+r.length:=by rw[eO];rfl
 obtain⟨h0,h2⟩:=ZZ r;rcases ht with rfl|rfl
 .exact EZ h0 ac
 .exact EZ h2 ac
def uo(l:List Nd)(n:Nd)(how at_:Int):Nd:=
 if zei how 10=0 then ⟨zei (cq (how.tdiv 10)) 36-1,n.imm,n.kids⟩
 else if zei how 10=1 then ⟨n.op,zei (cq (how.tdiv 10)) 300-3,n.kids⟩
 else if zei how 10=2 then ⟨n.op,n.imm,n.kids++[zei (cq (how.tdiv 10)) (l.length+2)-1]⟩
 else if zei how 10=3 then (if n.kids=[]then n else ⟨n.op,n.imm,n.kids.set (zei (cq (how.tdiv 10)) n.kids.length).toNat (zei (cq (at_.tdiv 3)) (l.length+2)-1)⟩)
 else if zei how 10=4 then ⟨n.op,n.imm,n.kids.drop 1⟩
 else if zei how 10=6 then ⟨3,zei (cq (how.tdiv 10)) 40,[]⟩
 else n
def kx(l:List Nd)(how at_:Int):List Nd:=
 if l=[]then []else
  (if zei how 10=5 then l++[l.getD (zei at_ l.length).toNat ⟨0,0,[]⟩]else l).set (zei at_ l.length).toNat (uo l (l.getD (zei at_ l.length).toNat ⟨0,0,[]⟩) how at_)
theorem Z1(l:List Nd)(n:Nd)(how at_:Int):(uo l n how at_).kids.length<=n.kids.length+1:=by
 unfold uo;repeat' split
 all_goals (first|(simp;done)|(simp;omega))
theorem Lr(l:List Nd)(how at_:Int):(kx l how at_).length<=l.length+1:=by
 unfold kx;split
 .exact dE _
 .rw[iS];split
  .rw[eO];exact aM _
  .omega
theorem Ls{l:List Nd}{c:Nat}(h:E9 c l)(how at_:Int):E9 (c+1) (kx l how at_):=by
 intro n hn;unfold kx at hn;split at hn
 .simp at hn
 .rename_i hne;have hg:(l.getD (zei at_ l.length).toNat ⟨0,0,[]⟩).kids.length<=c:=by
   rw[dM];cases e:l[(zei at_ l.length).toNat]? with
   |none=>exact dE _
   |some x=>exact h x (lw e)
  rcases vQ hn with hn|rfl
  .split at hn
   .rcases mI.1 hn with hn|hn
    .have:=h n hn;omega
    .rw[A1]at hn;subst hn;omega
   .have:=h n hn;omega
  .have:=Z1 l (l.getD (zei at_ l.length).toNat ⟨0,0,[]⟩) how at_;omega
theorem Lt(l:List Int)(values:Bool):jD l values≠[]:=by
 obtain⟨r,h⟩:=E8 l values (min l.length 14);rw[jD,h];simp[lP]
theorem Z2{l:List Nd}(h:l≠[])(how at_:Int):kx l how at_≠[]:=by
 unfold kx;rw[ah h];intro e;have:=lX List.length e;rw[iS,fV]at this;split at this
 .simp at this
 .exact h (xI this)
end Go.Proofs.YtpbcimfiofmoeaaGreat
