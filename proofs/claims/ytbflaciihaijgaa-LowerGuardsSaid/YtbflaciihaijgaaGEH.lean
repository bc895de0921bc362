/- Lemmas for the last file. -/
import Derived.Test.YtbflaciihaijgaaGEG
set_option linter.all false
set_option maxHeartbeats 32000000
namespace Go.Ab
set_option maxRecDepth 20000
open Go
variable{qd:Prop}
def cC(h:qd:=by rfl):=h
def tV(h:qd:=by rw[Hp.get_set,if_neg hq]):=h
def yC(h:qd:=by rw[Hp.get_set,if_pos rfl];rfl):=h
def jt(h:qd:=by simp only[bJ];omega):=h
def yD(h:qd:=by rw[Hp.get_set,if_neg Z]):=h
def B2(h:qd:=by rw[<- hHa];exact SqZ.start hP hi):=h
def jL(h:qd:=by rw[<- hK];exact de.put):=h
def nJ(h:qd:=by simp only[List.length_map,cX];omega):=h
def nK(h:qd:=by simp only[List.length_append,List.length_cons,List.length_nil];omega):=h
def B3(h:qd:=by rw[<- hK];exact de.trans de.put (z.put _).d0):=h
def GC(h:qd:=by simp only[List.all_cons,List.all_nil,w30,w31,w32,w33,w34,Bool.and_self]):=h
def GD(h:qd:=by rw[<- C,Hp.get_set,if_neg ac,aJ,if_neg ac]):=h
def GE(h:qd:=by rw[<- hHc,Hp.get_set,if_neg ac,aJ,if_neg ac]):=h
def GF(h:qd:=by rw[<- I];simp only[Hp.get_set,aJ,bJ,bj];repeat rw[if_neg ac]):=h
def GG(h:qd:=by rw[<- I];simp only[Hp.get_set,aJ,bJ,bj];rw[if_neg ac,if_pos trivial];rfl):=h
def nL:=@List.all_cons
def oL:=@List.all_nil
def mO:=@Option.some.inj
def cQ:=@Option.bind_some
def tW:=@Option.bind_none
end Go.Ab
namespace Go.Proofs.Ytbflaciihaijgaa
set_option maxRecDepth 20000
open Go Go.Ab Proofs.Try
variable{cs a v:ql}{tb:qs}{l:qx}{i b j n d:Nat}{H K:Hp}{r:Ex×Nat}{S:Nat->Prop}{C I J c:AV}{x:HB}
section
namespace tyG3
end tyG3
open tyG3
def RJ(s:qn):dF prog 59 [(0,.int .i64 2),(2,.ag s)]=some (.agg [.int .i64 2,.int .i64 0,.ag s,.int .i64 0,.aa]):=aF
def RK(s:qn)(r n:Nat):dF prog 59 [(0,.int .i64 3),(2,.ag s),(4,.sl r 0 n 5)]=some (.agg [.int .i64 3,.int .i64 0,.ag s,.int .i64 0,.sl r 0 n 5]):=aF
def RL(o:Int)(r n:Nat):dF prog 59 [(0,.int .i64 4),(3,.int .i64 o),(4,.sl r 0 n 5)]=some (.agg [.int .i64 4,.int .i64 0,.ag [],.int .i64 o,.sl r 0 n 5]):=aF
def gw(h:cs.length=5):∃a b c d e,cs=[a,b,c,d,e]:=by
 match cs,h with
 |[a,b,c,d,e],_=>exact⟨a,b,c,d,e,rfl⟩
def RM(H:Hp)(h:cs.length=5)(h1:cs.all AV.one=true):ec prog H 57 1 [(0,.agg cs)]=some (.sl H.next 0 1 5,H.alloc (.cells cs 0 true)):=by
 obtain⟨a,b,c,d,e,rfl⟩:=gw h;kernel_rfl
def GH(H:Hp){ds:ql}(h:cs.length=5)(k:ds.length=5):ec prog H 57 2 [(0,.agg cs),(1,.agg ds)]=some (.sl H.next 0 2 5,H.alloc (.cells (cs++ds) 0 true)):=by
 obtain⟨a,b,c,d,e,rfl⟩:=gw h;obtain⟨W,b',J,Z,U,rfl⟩:=gw k;kernel_rfl
theorem l0(a b c d e:AV):cr 5 [a,b,c,d,e]=some (.agg [a,b,c,d,e]):=rfl
end
variable(ρ:Nat->Int)
section
def tyPzC.tyF:=ad @cJ (ad @lU (ad @kS (ad @lV (ad @sn (ad @cM (ad @mI (ad @vF (ad @Fx (ad @ef (ad @eg (ad @dJ (ad @oG (ad @QK (ad @vN (@vO)))))))))))))))
open tyPzC
noncomputable def GI:{c:SC // aG 40 (f157.body.getD .skip)=c}:=by
 refine⟨?_,?_⟩;rotate_left
 .simp only[f157,bK,aG,bF,bw,bH,bI,Nat.blt,Nat.ble];rfl
noncomputable def GJ:{c:SC // aG 125 (f131.body.getD .skip)=c}:=by
 refine⟨?_,?_⟩;rotate_left
 .simp only[f131,bK,aG,bF,bw,bH,bI,Nat.blt,Nat.ble];rfl
noncomputable def GK:{c:SC // aG 9 (f24.body.getD .skip)=c}:=by
 refine⟨?_,?_⟩;rotate_left
 .simp only[f24,bK,aG,bF,bw,bH,bI,Nat.blt,Nat.ble];rfl
noncomputable def GL:{c:SC // aG 56 (f25.body.getD .skip)=c}:=by
 refine⟨?_,?_⟩;rotate_left
 .simp only[f25,bK,aG,bF,bw,bH,bI,Nat.blt,Nat.ble];rfl
noncomputable def GM:{c:SC // aG 54 (f56.body.getD .skip)=c}:=by
 refine⟨?_,?_⟩;rotate_left
 .simp only[f56,bK,aG,bF,bw,bH,bI,Nat.blt,Nat.ble];rfl
noncomputable def GN:{c:SC // aG 37 (f147.body.getD .skip)=c}:=by
 refine⟨?_,?_⟩;rotate_left
 .simp only[f147,bK,aG,bF,bw,bH,bI,Nat.blt,Nat.ble];rfl
noncomputable def GO:{c:SC // aG 17 (f28.body.getD .skip)=c}:=by
 refine⟨?_,?_⟩;rotate_left
 .simp only[f28,bK,aG,bF,bw,bH,bI,Nat.blt,Nat.ble];rfl
noncomputable def GP:{c:SC // aG 27 (f26.body.getD .skip)=c}:=by
 refine⟨?_,?_⟩;rotate_left
 .simp only[f26,bK,aG,bF,bw,bH,bI,Nat.blt,Nat.ble];rfl
noncomputable def GQ:{c:SC // aG 64 (f27.body.getD .skip)=c}:=by
 refine⟨?_,?_⟩;rotate_left
 .simp only[f27,bK,aG,bF,bw,bH,bI,Nat.blt,Nat.ble];rfl
noncomputable def GR:{c:SC // aG 65 (f148.body.getD .skip)=c}:=by
 refine⟨?_,?_⟩;rotate_left
 .simp only[f148,bK,aG,bF,bw,bH,bI,Nat.blt,Nat.ble];rfl
def yE(s:qn):Prop:=(lQ s).isSome=true/\dv s<9223372036854775808
def RN(s:qn)(O:yE s):cp prog ρ 157 [.ag s] (.aO [.int .i64 (dv s:Int),.bool true]):=fI fit (pls:=pls) (l:=[oK]) ⟨BX ρ,trivial⟩ (.cons (.ag _) .nil) (.aO (.cons (.int _ _) (.cons (.bool _) .nil))) (by
 obtain⟨W,o⟩:=O;obtain⟨U,f2,m,f4,f5⟩:=BV W;have V:zaa (aK pls [oK]) 157:=dK (fun _=>rfl) rfl;have J:∀H:Hp,aX prog (aK pls [oK]) 54 [.ag s,.int .u64 9223372036854775807] H fun v H'=>v=.aO [.int .u64 (dv s:Int),.bool true]/\H'=H:=fun H=>BY (tb:=[oK]) (most:=9223372036854775807) (fun _=>rfl) ⟨W,by show dv s<=9223372036854775807;omega,by show 9223372036854775807<2^64;decide⟩ H;have hs:¬(s=[]):=fun e=>by rw[e]at U;simp at U
 have I:s[0]?=some s[0]:=bc ac;have Z:=m _ (dU (by omega:0<s.length));generalize s[0]=b at *;have z:¬((b.toNat:Int)=45):=ac;have ew:IntKind.wrap .i64 (dv s:Int)=dv s:=pM ac ac;refine bA (M:=40) (rs:=[.tmp 2,.tmp 3]) (V.call _) V.aF V.ak func157 rfl rfl GI.2 rfl ?_;dsimp only[GI,bt,Nat.reduceAdd];repeat' (first
  |(apply aj ?_;clear hK K)|apply Ry.o ?_|(apply ch ?_;first|refine Rx.k (J _) ?_)|(apply bS (fun Y C=>?_) (fun Y C=>?_)<;>try(cases Y;done))|(apply aY (fun Z L=>?_) (fun Z L=>?_)<;>try(cases Z;done))|apply ai ?_|(apply ah fun K hK=>?_)|apply au ?_)
 all_goals refine qq ?_
 all_goals trivial)
noncomputable def B4:En:=⟨157,false,dA yE (fun s=>[.ag s]) fun s=>.aO [.int .i64 (dv s:Int),.bool true]⟩
def RO:eu prog ρ B4:=eY fun x O=>RN ρ x O
structure OpX where
 k:Nat
 s:qn
def sD(x:OpX):ql:=[.int .i64 (x.k:Int),.ag x.s]
def RP(x y:OpX)(h:sD x=sD y):x=y:=by
 obtain⟨a,b⟩:=x;obtain⟨c,d⟩:=y;simp only[sD,eU,AV.ag.injEq,AV.int.injEq,bu,kI]at h;obtain⟨h,rfl⟩:=h;rw[Int.ofNat.inj h]
def yF(x:OpX):AV:=.aO [.int .i64 (lS x.k x.s).1,.bool (lS x.k x.s).2]
theorem RQ(x:OpX)(O:x.k<=7):cp prog ρ 131 (sD x) (yF x):=fI fit (pls:=pls) (l:=[]) trivial (.cons (.int _ _) (.cons (.ag _) .nil)) (.aO (.cons (.int _ _) (.cons (.bool _) .nil))) (by
 obtain⟨k,s⟩:=x;simp only[]at O;have V:=fy 131;rw[sD,yF];simp only[];rcases(by omega:k=0\/k=1\/k=2\/k=3\/k=4\/k=5\/k=6\/k=7)with rfl|rfl|rfl|rfl|rfl|rfl|rfl|rfl;all_goals
  refine bA (M:=125) (rs:=[.tmp 4,.tmp 5]) (V.call _) V.aF V.ak func131 rfl rfl GJ.2 rfl ?_;dsimp only[GJ,bt,Nat.reduceAdd];repeat' (first
   |(apply aj ?_;clear hK K)|apply Ry.o ?_|(apply bS (fun Z C=>?_) (fun Z C=>?_)<;>try(cases Z;done))|(apply aY (fun Y L=>?_) (fun Y L=>?_)<;>try(cases Y;done))|apply ai ?_|(apply ah fun K hK=>?_)|apply aq ?_|apply am ?_|apply au ?_)
  all_goals
   all_goals refine qq ?_
   simp_all[lS])
noncomputable def B5:En:=⟨131,false,dA (fun x:OpX=>x.k<=7) sD yF⟩
def RR:eu prog ρ B5:=eY fun x O=>RQ ρ x O
end
variable{s:qn}{k:Nat}
section
def tyPzD.tyF:=ad @cJ (ad @lU (ad @kS (ad @lV (ad @sn (ad @cM (@mI))))))
open tyPzD
def B6(f:FuncId):Bool:=[24,25,56,147,28,26,27,148,149,130,102,59,100,58,101,29,10].any (Nat.beq f)
structure PzL (tb:qs):Prop where
 res:∀ar,dR tb 98 ar=BQ.sp ar
 nu:∀ar,dR tb 54 ar=oK.sp ar
 pa:∀ar,dR tb 157 ar=B4.sp ar
 op:∀ar,dR tb 131 ar=B5.sp ar
 pl:∀f,B6 f=true->(∀ar,dR tb f ar=none)/\lW tb f=false
def PzL.plain{l:qs}(h:PzL l){f:FuncId}(o:B6 f=true):zaa (aK pls l) f:=dK (h.pl f o).1 (h.pl f o).2
def dX(l:qx)(i:Nat)(en:Int):ql:=[.aq (l.map Tk.cells),.int .i64 (i:Int),.int .i64 en,.int .i64 0,.int .i64 0]
def RS(h:PzL tb)(s:qn)(H:Hp):aX prog (aK pls tb) 98 [.ag s] H fun v H'=>v=.bool (oB s)/\H'=H:=ev (enc:=pL) (ok:=fun _=>True) (out:=fun s=>.bool (oB s)) BP (x:=s) (h.res _) trivial
def RT(h:PzL tb)(O:yE s)(H:Hp):aX prog (aK pls tb) 157 [.ag s] H fun v H'=>v=.aO [.int .i64 (dv s:Int),.bool true]/\H'=H:=ev (enc:=fun s:qn=>[.ag s]) (ok:=yE) (out:=fun s=>.aO [.int .i64 (dv s:Int),.bool true]) (fun x y h=>fQ) (x:=s) (h.pa _) O
def RU(h:PzL tb)(z:k<=7)(s:qn)(H:Hp):aX prog (aK pls tb) 131 [.int .i64 (k:Int),.ag s] H fun v H'=>v=.aO [.int .i64 (lS k s).1,.bool (lS k s).2]/\H'=H:=ev (enc:=sD) (ok:=fun x=>x.k<=7) (out:=yF) RP (x:=⟨k,s⟩) (h.op _) z
def oM(U:PzL tb){en:Int}(C:H.get b=some (.cells (dX l i en) 0 true)):aX prog (aK pls tb) 24 [.ptr b 0] H fun v H'=>v=.bool true/\H'=H:=by
 have V:zaa (aK pls tb) 24:=U.plain cC;unfold dX at C;refine bA (M:=9) (rs:=[.tmp 2]) (V.call _) V.aF V.ak func24 rfl rfl GK.2 rfl ?_;dsimp only[GK,bt,Nat.reduceAdd];repeat' (first
  |(apply aj ?_;clear hK K)|apply Ry.o ?_|apply ai ?_|(apply ah fun K hK=>?_)|apply au ?_)
 all_goals refine qq ?_
 exact⟨trivial,trivial⟩
theorem sE{t:Tk}(h:l[j]?=some t):dZ prog 72 (.aq (l.map Tk.cells)) (.int .i64 (j:Int))=some (.a2 t.cells):=by
 exact MX underlying72 tF (by rw[ii,h];rfl) rfl
theorem jM(U:PzL tb){en:Int}(W:H.get b=some (.cells (dX l i en) 0 true))(I:l.length<2^40)(m:i<2^41)(k:Nat)(hk:k<2^10)(s:qn):aX prog (aK pls tb) 25 [.ptr b 0,.int .i64 (k:Int),.ag s] H fun v H'=>v=.bool (bP l i k s)/\H'=H:=by
 have V:zaa (aK pls tb) 25:=U.plain cC;have o:=fun H' (h:H'=H)=>(by rw[h];exact oM U W:aX prog (aK pls tb) 24 [.ptr b 0] H' fun v Z=>v=.bool true/\Z=H');unfold dX at W;have ea:IntKind.wrap .i64 ((i:Int)+k)=((i+k:Nat):Int):=ei;unfold bP;refine bA (M:=56) (rs:=[.tmp 6]) (V.call _) V.aF V.ak func25 rfl rfl GL.2 rfl ?_;dsimp only[GL,bt,Nat.reduceAdd];by_cases O:i+k<l.length
 .have z:((i+k:Nat):Int)<l.length:=by omega
  have Y:l[i+k]?=some l[i+k]:=bc O;have J:=sE Y;rw[Y];generalize l[i+k]=t at *;simp only[];repeat' (first
   |(apply aj ?_;clear hK K)|apply Ry.o ?_|(apply ch ?_;first|refine Rx.k (o _ rfl) ?_)|apply ai ?_|(apply ah fun K hK=>?_)|(apply ak 1 [(6,50),(12,50),(13,50),(20,50),(24,50),(29,50),(37,50),(41,50),(46,50)] fun K hK=>?_)|(apply aV ?_;try intro _)|(apply aW ?_ ?_<;>clear hK K)|apply aU ?_|(apply fH (fun L C=>?_) (fun L C=>?_)<;>try(cases L;done))|apply au ?_)
  .exact cG
  .all_goals refine qq ?_
   simp_all
  .exact cG
  .all_goals refine qq ?_
   simp_all
 .have z:¬((i+k:Nat):Int)<l.length:=by omega
  rw[jm ac];repeat' (first
   |(apply aj ?_;clear hK K)|apply Ry.o ?_|(apply ch ?_;first|refine Rx.k (o _ rfl) ?_)|apply ai ?_|(apply ah fun K hK=>?_)|(apply ak 1 [(6,50),(12,50),(13,50),(20,50),(24,50),(29,50),(37,50),(41,50),(46,50)] fun K hK=>?_)|(apply aV ?_;try intro _)|(apply aW ?_ ?_<;>clear hK K)|apply aU ?_|(apply fH (fun L C=>?_) (fun L C=>?_)<;>try(cases L;done))|apply au ?_)
  .exact cG
  .all_goals refine qq ?_
   simp_all
theorem GS(U:PzL tb){en:Int}(W:H.get b=some (.cells (dX l i en) 0 true))(I:l.length<2^40)(m:i<2^41)(k:Nat)(hk:k<2^10):aX prog (aK pls tb) 56 [.ptr b 0,.int .i64 (k:Int)] H fun v H'=>v=.bool (lR l i k)/\H'=H:=by
 have V:zaa (aK pls tb) 56:=U.plain cC;have o:=fun H' (h:H'=H)=>(by rw[h];exact oM U W:aX prog (aK pls tb) 24 [.ptr b 0] H' fun v Z=>v=.bool true/\Z=H');unfold dX at W;have ea:IntKind.wrap .i64 ((i:Int)+k)=((i+k:Nat):Int):=ei;unfold lR;refine bA (M:=54) (rs:=[.tmp 4]) (V.call _) V.aF V.ak func56 rfl rfl GM.2 rfl ?_;dsimp only[GM,bt,Nat.reduceAdd];by_cases O:i+k<l.length
 .have z:((i+k:Nat):Int)<l.length:=by omega
  have Y:l[i+k]?=some l[i+k]:=bc O;have J:=sE Y;rw[Y];generalize l[i+k]=t at *;simp only[];repeat' (first
   |(apply aj ?_;clear hK K)|apply Ry.o ?_|(apply ch ?_;first|refine Rx.k (o _ rfl) ?_|refine Rx.k (RS U _ _) ?_)|apply ai ?_|(apply ah fun K hK=>?_)|(apply ak 1 [(6,46),(12,46),(13,46),(20,46),(24,46),(29,46),(36,46),(40,46),(45,46)] fun K hK=>?_)|(apply aV ?_;try intro _)|(apply aW ?_ ?_<;>clear hK K)|apply aU ?_|(apply fH (fun L C=>?_) (fun L C=>?_)<;>try(cases L;done))|apply au ?_)
  .exact cG
  .all_goals refine qq ?_
   simp_all
  .exact cG
  .all_goals refine qq ?_
   simp_all
 .have z:¬((i+k:Nat):Int)<l.length:=by omega
  rw[jm ac];repeat' (first
   |(apply aj ?_;clear hK K)|apply Ry.o ?_|(apply ch ?_;first|refine Rx.k (o _ rfl) ?_)|apply ai ?_|(apply ah fun K hK=>?_)|(apply ak 1 [(6,46),(12,46),(13,46),(20,46),(24,46),(29,46),(36,46),(40,46),(45,46)] fun K hK=>?_)|(apply aV ?_;try intro _)|(apply aW ?_ ?_<;>clear hK K)|apply aU ?_|(apply fH (fun L C=>?_) (fun L C=>?_)<;>try(cases L;done))|apply au ?_)
  .exact cG
  .all_goals refine qq ?_
   simp_all
theorem RV(U:PzL tb){en:Int}(W:H.get b=some (.cells (dX l i en) 0 true))(I:l.length<2^40)(m:i<2^41)(k:Nat)(hk:k<2^10):aX prog (aK pls tb) 147 [.ptr b 0,.int .i64 (k:Int)] H fun v H'=>v=.bool (i9 l (i+k) 2)/\H'=H:=by
 have V:zaa (aK pls tb) 147:=U.plain cC;have o:=fun H' (h:H'=H)=>(by rw[h];exact oM U W:aX prog (aK pls tb) 24 [.ptr b 0] H' fun v Z=>v=.bool true/\Z=H');unfold dX at W;have ea:IntKind.wrap .i64 ((i:Int)+k)=((i+k:Nat):Int):=ei;unfold i9;refine bA (M:=37) (rs:=[.tmp 4]) (V.call _) V.aF V.ak func147 rfl rfl GN.2 rfl ?_;dsimp only[GN,bt,Nat.reduceAdd];by_cases O:i+k<l.length
 .have z:((i+k:Nat):Int)<l.length:=by omega
  have Y:l[i+k]?=some l[i+k]:=bc O;have J:=sE Y;rw[Y];generalize l[i+k]=t at *;simp only[];repeat' (first
   |(apply aj ?_;clear hK K)|apply Ry.o ?_|(apply ch ?_;first|refine Rx.k (o _ rfl) ?_)|apply ai ?_|(apply ah fun K hK=>?_)|(apply ak 1 [(6,33),(12,33),(13,33),(20,33),(24,33),(29,33)] fun K hK=>?_)|(apply aV ?_;try intro _)|(apply aW ?_ ?_<;>clear hK K)|apply aU ?_|(apply fH (fun L C=>?_) (fun L C=>?_)<;>try(cases L;done))|apply au ?_)
  .exact cG
  .all_goals refine qq ?_
   simp_all
 .have z:¬((i+k:Nat):Int)<l.length:=by omega
  rw[jm ac];repeat' (first
   |(apply aj ?_;clear hK K)|apply Ry.o ?_|(apply ch ?_;first|refine Rx.k (o _ rfl) ?_)|apply ai ?_|(apply ah fun K hK=>?_)|(apply ak 1 [(6,33),(12,33),(13,33),(20,33),(24,33),(29,33)] fun K hK=>?_)|(apply aV ?_;try intro _)|(apply aW ?_ ?_<;>clear hK K)|apply aU ?_|(apply fH (fun L C=>?_) (fun L C=>?_)<;>try(cases L;done))|apply au ?_)
  .exact cG
  .all_goals refine qq ?_
   simp_all
end
section
def tyPzE.tyF:=ad @cJ (ad @cM (ad @kS (ad @lV (ad @sn (ad @mI (ad @vF (ad @Fx (ad @ef (ad @eg (ad @dJ (ad @vN (@vO))))))))))))
open tyPzE
structure PrP (l:qx) (en:Int) (b:Nat) (H:Hp) (j:Nat) (H':Hp):Prop where
 get:H'.get b=some (.cells (dX l j en) 0 true)
 next:H.next<=H'.next
 aT:∀k,k<H.next->k≠b->H'.get k=H.get k
 le:j<=l.length
def nM(z:Nat)(l:qx)(en:Int)(b:Nat)(H:Hp)(m:ql)(j:Nat)(v:AV)(H':Hp):Prop:=(∃n cs,v=.agg cs/\cs.length=z/\cs.all AV.one=true/\bW (fun q=>H.next<=q) n H' cs m)/\PrP l en b H j H'
def PrP.set(l:qx)(en:Int)(b:Nat)(H:Hp)(j:Nat)(I:j<=l.length):PrP l en b H j (H.set b (.cells (dX l j en) 0 true)):=⟨eT,az _,fun k _ z=>jV,I⟩
def sF(h:bP l i k s=true):i+k<l.length:=by
 unfold bP at h;split at h
 .rename_i t V;exact(dx.1 V).1
 .cases h
def RW(h:lR l i k=true):i+k<l.length:=by
 unfold lR at h;split at h
 .rename_i t V;exact(dx.1 V).1
 .cases h
def GT{k:Int}(h:i9 l i k=true):i<l.length:=by
 unfold i9 at h;split at h
 .rename_i t V;exact(dx.1 V).1
 .cases h
def RX(h:cS l i s=some j):bP l i 0 s=true/\j=i+1:=by
 unfold cS at h;split at h
 .rename_i c;exact⟨c,by simpa using h.symm⟩
 .cases h
def RY{r:qn×Nat}(h:jq l i=some r):lR l i 0=true/\r=(gS l i,i+1):=by
 unfold jq at h;split at h
 .rename_i c;exact⟨c,by simpa using h.symm⟩
 .cases h
def fX(U:PzL tb){en:Int}(C:H.get b=some (.cells (dX l i en) 0 true))(W:l.length<2^40)(h:cS l i s=some j):aX prog (aK pls tb) 28 [.ptr b 0,.ag s] H fun v H'=>PrP l en b H j H':=by
 obtain⟨o,rfl⟩:=RX h;have Z:=sF o;have V:zaa (aK pls tb) 28:=U.plain cC;have O:aX prog (aK pls tb) 25 [.ptr b 0,.int .i64 0,.ag s] H fun v H'=>v=.bool (bP l i 0 s)/\H'=H:=jM U C W ac 0 aZ s;rw[o]at O;unfold dX at C;have m:IntKind.wrap .i64 ((i:Int)+1)=((i+1:Nat):Int):=ei;refine bA (M:=17) (rs:=[]) (V.call _) V.aF V.ak func28 rfl rfl GO.2 rfl ?_;dsimp only[GO,bt,Nat.reduceAdd];repeat' (first
  |(apply aj ?_;clear hK K)|apply Ry.o ?_|apply bq ?_|(apply ch ?_;first|refine Rx.k (O) ?_)|(apply aY (fun C L=>?_) (fun C L=>?_)<;>try(cases C;done))|apply ai ?_|(apply ah fun K hK=>?_)|apply am ?_)
 refine⟨aP,_,yk,?_⟩;try simp only[aN]
 exact PrP.set l en b H (i+1) ac
def sG(U:PzL tb){en:Int}(C:H.get b=some (.cells (dX l i en) 0 true))(W:l.length<2^40){r:qn×Nat}(h:jq l i=some r):aX prog (aK pls tb) 26 [.ptr b 0] H fun v H'=>v=.ag r.1/\PrP l en b H r.2 H':=by
 obtain⟨o,rfl⟩:=RY h;have J:=RW o;have V:zaa (aK pls tb) 26:=U.plain cC;have O:aX prog (aK pls tb) 56 [.ptr b 0,.int .i64 0] H fun v H'=>v=.bool (lR l i 0)/\H'=H:=GS U C W ac 0 aZ;rw[o]at O;unfold dX at C;have m:IntKind.wrap .i64 ((i:Int)+1)=((i+1:Nat):Int):=ei;have I:IntKind.wrap .i64 (((i+1:Nat):Int)-1)=(i:Int):=ei;have Y:l[i]?=some l[i]:=bc ac;have Z:gS l i=l[i].text:=by unfold gS;rw[Y]
 have z:=sE Y;simp only[Z];generalize l[i]=t at *;refine bA (M:=27) (rs:=[.tmp 2]) (V.call _) V.aF V.ak func26 rfl rfl GP.2 rfl ?_;dsimp only[GP,bt,Nat.reduceAdd];repeat' (first
  |(apply aj ?_;clear hK K)|apply Ry.o ?_|apply bq ?_|(apply ch ?_;first|refine Rx.k (O) ?_)|(apply aY (fun C L=>?_) (fun C L=>?_)<;>try(cases C;done))|apply ai ?_|(apply ah fun K hK=>?_)|(apply ak 5 [(3,13),(7,13),(11,13)] fun K hK=>?_)|(apply aV ?_;try intro _)|(apply aW ?_ ?_<;>clear hK K)|apply aU ?_|apply am ?_|apply au ?_)
 .exact cG
 .refine⟨aP,_,yk,?_⟩;try simp only[aN]
  exact⟨trivial,PrP.set l en b H (i+1) ac⟩
def RZ(U:PzL tb){en:Int}(C:H.get b=some (.cells (dX l i en) 0 true))(hl:l.length<2^40){r:Int×Nat}(h:xW l i=some r):aX prog (aK pls tb) 27 [.ptr b 0] H fun v H'=>v=.int .i64 r.1/\PrP l en b H r.2 H':=by
 unfold xW at h;split at h;rotate_left
 .cases h
 rename_i z;obtain⟨m,Z,h⟩:=bT.1 h;split at h;rotate_left
 .cases h
 rename_i o;obtain rfl:((m:Int),i+1)=r:=fQ;have hlt:=GT z;have Y:l[i]?=some l[i]:=bc ac;have O:gS l i=l[i].text:=by unfold gS;rw[Y]
 have hkd:l[i].ah=2:=by unfold i9 at z;rw[Y]at z;simpa using z
 have hix:=sE Y;rw[O]at Z;generalize l[i]=t at *;have hv:m=dv t.text:=by
  unfold lQ at Z;split at Z
  .simpa using Z.symm
  .cases Z
 have J:zaa (aK pls tb) 27:=U.plain cC;have ko:aX prog (aK pls tb) 24 [.ptr b 0] H fun v W=>v=.bool true/\W=H:=oM U C;have kn:aX prog (aK pls tb) 54 [.ag t.text,.int .u64 1000000] H fun v H'=>v=.aO [.int .u64 (dv t.text:Int),.bool true]/\H'=H:=BY (most:=1000000) U.nu ⟨by rw[Z];rfl,by show dv t.text<=1000000;omega,by show 1000000<2^64;decide⟩ H;unfold dX at C;have ea:IntKind.wrap .i64 ((i:Int)+1)=((i+1:Nat):Int):=ei;have ew:IntKind.wrap .i64 (dv t.text:Int)=(dv t.text:Int):=pM ac ac;have hge:¬((l.length:Int)<=i):=ac;refine bA (M:=64) (rs:=[.tmp 2]) (J.call _) J.aF J.ak func27 rfl rfl GQ.2 rfl ?_;dsimp only[GQ,bt,Nat.reduceAdd];repeat' (first
  |(apply aj ?_;clear hK K)|apply Ry.o ?_|apply bq ?_|(apply ch ?_;first|refine Rx.k (ko) ?_|refine Rx.k (kn) ?_)|(apply aY (fun C L=>?_) (fun C L=>?_)<;>try(cases C;done))|apply ai ?_|(apply ah fun K hK=>?_)|(apply ak 1 [(7,29),(11,29),(12,29),(19,29),(23,29),(26,29)] fun K hK=>?_)|(apply ak 4 [(3,11),(7,11),(10,11)] fun K hK=>?_)|(apply aV ?_;try intro _)|(apply aW ?_ ?_<;>clear hK K)|apply aU ?_|(apply fH (fun I V=>?_) (fun I V=>?_)<;>try(cases I;done))|apply am ?_|apply au ?_)
 .exact cG
 .exact cG
 .refine⟨aP,_,yk,?_⟩;try simp only[aN]
  exact⟨by rw[hv],PrP.set l en b H (i+1) ac⟩
def R0(n:Int):dF prog 59 [(0,.int .i64 1),(1,.int .i64 n)]=some (.agg [.int .i64 1,.int .i64 n,.ag [],.int .i64 0,.aa]):=aF
def Sa(U:PzL tb){en:Int}(C:H.get b=some (.cells (dX l i en) 0 true))(z:b<H.next)(hl:l.length<2^40)(O:i9 l i 2=true){m:Nat}(Z:lQ (gS l i)=some m)(J:m<9223372036854775808):aX prog (aK pls tb) 148 [.ptr b 0,.bool false] H (nM 5 l en b H (Ex.mk 1 m [] 0 []).cells (i+1)):=by
 have o:=GT O;have Y:l[i]?=some l[i]:=bc ac;have W:gS l i=l[i].text:=by unfold gS;rw[Y]
 have hix:=sE Y;rw[W]at Z;generalize l[i]=t at *;have hv:m=dv t.text:=by
  unfold lQ at Z;split at Z
  .simpa using Z.symm
  .cases Z
 have V:zaa (aK pls tb) 148:=U.plain cC;have kn:∀H:Hp,aX prog (aK pls tb) 157 [.ag t.text] H fun v H'=>v=.aO [.int .i64 (dv t.text:Int),.bool true]/\H'=H:=fun H=>RT U ⟨by rw[Z];rfl,ac⟩ H;unfold dX at C;have ea:IntKind.wrap .i64 ((i:Int)+1)=((i+1:Nat):Int):=ei;have dW:(b == H.next)=false:=bQ ac;have n2:(H.next == b)=false:=bQ ac;refine bA (M:=65) (rs:=[.cell 4 59]) (V.call _) V.aF V.ak func148 rfl rfl GR.2 rfl ?_;dsimp only[GR,bt,Nat.reduceAdd];have gh0:=@R0;repeat' (first
  |(apply aj ?_;clear hK K)|apply Ry.o ?_|apply bq ?_|(apply ch ?_;first|refine Rx.k (kn _) ?_)|(apply aY (fun C L=>?_) (fun C L=>?_)<;>try(cases C;done))|apply ai ?_|(apply ah fun K hK=>?_)|(apply ak 1 [(3,11),(7,11),(10,11)] fun K hK=>?_)|(apply ak 3 [(3,12),(7,12),(10,12)] fun K hK=>?_)|(apply ak 4 [(3,12),(7,12),(10,12)] fun K hK=>?_)|(apply aV ?_;try intro _)|(apply aW ?_ ?_<;>clear hK K)|apply aU ?_|apply am ?_|apply au ?_)
 .exact cG
 .refine⟨aP,_,(by(try simp only[aM,a0,Nat.reduceBEq,Nat.reduceAdd,Nat.reduceLeDiff,tyF,cU,da,l0, *]);first|done|with_reducible rfl),?_⟩;try simp only[aN]
  refine⟨⟨2,_,rfl,rfl,rfl,?_⟩,⟨by rw[bi,ao ac,bi,aB rfl];rfl,?_,fun k h1 I=>?_,ac⟩⟩
  .rw[jE,hv];exact .cons (.int _ _) (.cons (.int _ _) (.cons (.ag _) (.cons (.int _ _) (.cons .aa .nil))))
  .simp only[bJ,bj];omega
  .rw[bi,ao ac,bi,ao I,aJ,ao ac]
end
section
def tyPzF.tyF:=ad @ef (ad @cJ (ad @cM (ad @kS (ad @eg (ad @dJ (ad @lV (ad @sn (ad @mI (ad @l0 (ad @RK (ad @RJ (ad @vN (ad @vO (@RL))))))))))))))
open tyPzF
noncomputable def GU:{c:SC // aG 48 (f149.body.getD .skip)=c}:=by
 refine⟨?_,?_⟩;rotate_left
 .simp only[f149,bK,aG,bF,bw,bH,bI,Nat.blt,Nat.ble];rfl
noncomputable def GV:{c:SC // aG 64 (f130.body.getD .skip)=c}:=by
 refine⟨?_,?_⟩;rotate_left
 .simp only[f130,bK,aG,bF,bw,bH,bI,Nat.blt,Nat.ble];rfl
noncomputable def GW:{c:SC // aG 83 (f102.body.getD .skip)=c}:=by
 refine⟨?_,?_⟩;rotate_left
 .simp only[f102,bK,aG,bF,bw,bH,bI,Nat.blt,Nat.ble];rfl
noncomputable def GX:{c:SC // aG 30 (f59.body.getD .skip)=c}:=by
 refine⟨?_,?_⟩;rotate_left
 .simp only[f59,bK,aG,bF,bw,bH,bI,Nat.blt,Nat.ble];rfl
structure zau (l:qx) (en:Int) (b i:Nat) (H:Hp):Prop where
 get:H.get b=some (.cells (dX l i en) 0 true)
 lt:b<H.next
def yG(l:qx)(n:Nat)(a:Ex)(i:Nat):Option (Ex×Nat):=
 if i9 l i 2 then (lQ (gS l i)).bind fun v=>if v<9223372036854775808 then some (.mk 1 v [] 0 [],i+1)else none
 else if bP l i 0 [40]then (dV l n 3 0 a (i+1)).bind fun r=>(cS l r.2 [41]).map fun j=>(r.1,j)
 else (jq l i).bind fun s=>
  if bP l s.2 0 [91]then (dV l n 3 0 a (s.2+1)).bind fun r=>(cS l r.2 [93]).map fun j=>(.mk 3 0 s.1 0 [r.1],j)
  else some (.mk 2 0 s.1 0 [],s.2)
theorem Sb(l:qx)(n k:Nat)(a:Ex)(i:Nat):dV l (n+1) 2 k a i=if bP l i 0 [45]||bP l i 0 [126]||bP l i 0 [33]then none else yG l n a i:=by rw[dV];rfl
def nM.fin{en:Int}{H2 m:Hp}{Z:ql}(W:cs.length=5)(h1:cs.all AV.one=true)(L:bW (fun q=>H.next<q) n H2 cs Z)(z:∀q,q≠H.next->m.get q=H2.get q)(Y:H2.next<=m.next)(V:H2.get b=some (.cells (dX l j en) 0 true))(C:b<H.next)(M:H.next<=H2.next)(U:∀k,k<H.next->k≠b->H2.get k=H.get k)(I:j<=l.length):nM 5 l en b H Z j (.agg cs) m:=
 ⟨⟨n,cs,rfl,W,h1,L.aD (fun k _ h=>Nat.le_of_lt h) Y fun k J _=>z k ac⟩,⟨(z b ac).trans V,ac,fun k h1 O=>(z k ac).trans (U k h1 O),I⟩⟩
def pV:=@nM.fin
theorem Sd(l:qx)(n k:Nat)(a:Ex)(i:Nat):dV l (n+1) 1 k a i=if i9 l i 3 then (if (lS k (gS l i)).1=0 then some (a,i)else (dV l n 0 (k+1) a (i+1)).bind fun r=>dV l n 1 k (.mk 4 0 [] (lS k (gS l i)).1 (if (lS k (gS l i)).2 then [r.1,a]else [a,r.1])) r.2)else some (a,i):=by rw[dV];rfl
theorem Se(l:qx)(n k:Nat)(a:Ex)(i:Nat):dV l (n+1) 0 k a i=if 7<k then dV l n 2 0 a i else (dV l n 0 (k+1) a i).bind fun r=>dV l n 1 k r.1 r.2:=by rw[dV];rfl
def GY{dW Z rs:Nat}{xs L:ql}{x y:Ex}(o:Int)(h1:bW S dW H xs x.cells)(h2:bW S Z H L y.cells)(O:xs.length=5)(W:L.length=5)(hS:S rs)(hr:rs<H.next)(Y:H.get rs=some (.cells (xs++L) 0 true)):bW S (max dW Z+2) H [.int .i64 4,.int .i64 0,.ag [],.int .i64 o,.sl rs 0 2 5] (Ex.mk 4 0 [] o [x,y]).cells:=by
 rw[jE];refine .cons (.int _ _) (.cons (.int _ _) (.cons (.ag _) (.cons (.int _ _) (.cons ?_ .nil))));exact cK.rows (n:=max dW Z+1) (a:=[xs,L]) (b:=[x.cells,y.cells]) hS hr (by rw[Y];simp only[ot,List.flatten_nil,ij];rfl) (db _) ⟨⟨O,h1.up ac⟩,⟨W,h2.up ac⟩,trivial⟩
def pW(tb:qs)(l:qx)(en:Int)(b:Nat)(f:FuncId)(xs:ql)(i:Nat)(r:Ex×Nat):Prop:=∀H:Hp,zau l en b i H->aX prog (aK pls tb) f (.ptr b 0::xs) H (nM 5 l en b H r.1.cells r.2)
abbrev qf:HB:=.cells [.int .i64 0,.int .i64 0,.ag [],.int .i64 0,.aa] 0 true
set_option maxRecDepth 100000 in
def Sf(hG:PzL tb){en:Int}(hl:l.length<2^40){a:Ex}(ih:∀(i:Nat) (r:Ex×Nat),i<=l.length->dV l n 3 0 a i=some r->pW tb l en b 59 [] i r)(hi:i<=l.length)(h:yG l n a i=some r):pW tb l en b 149 [] i r:=by
 intro H hP;have hw:zaa (aK pls tb) 149:=hG.plain cC;have hbn:=hP.lt;have dW:(b == H.next)=false:=bQ ac;have n2:(H.next == b)=false:=bQ ac;generalize hHa:H.alloc qf=V;have na:V.next=H.next+1:=by rw[<-hHa];rfl
 have oa:∀k,k+1<=H.next->V.get k=H.get k:=fun k z=>by rw[<-hHa,aJ,ao ac]
 have ga:V.get H.next=some qf:=by rw[<-hHa,aJ,aB rfl]
 have U:V.get b=some (.cells (dX l i en) 0 true):=(oa b hbn).trans hP.get;have kn:aX prog (aK pls tb) 147 [.ptr b 0,.int .i64 0] V fun v H'=>v=.bool (i9 l i 2)/\H'=V:=RV hG U hl ac 0 aZ;have ka:∀s:qn,aX prog (aK pls tb) 25 [.ptr b 0,.int .i64 0,.ag s] V fun v H'=>v=.bool (bP l i 0 s)/\H'=V:=fun s=>jM hG U hl ac 0 aZ s;have hal:bP l i 0 [40]=true->i+0<l.length:=sF;unfold yG at h;refine bA (M:=48) (rs:=[.cell 2 59]) (hw.call _) hw.aF hw.ak func149 rfl rfl GU.2 rfl ?_;dsimp only[GU,bt,Nat.reduceAdd];repeat' (first
  |(apply aj ?_;clear hK K)|apply Rx.o ?_|apply aD ?_|apply ai ?_|(apply ah fun K hK=>?_)|apply aq ?_|apply am ?_|apply au ?_)
 rw[hHa];clear hHa;split at h
 .rename_i z;obtain⟨m,hm,h⟩:=bT.1 h;split at h;rotate_left
  .cases h
  rename_i hm2;obtain rfl:=mO h;have kr:=Sa hG U ac hl z hm hm2;repeat' (first
   |(apply aj ?_;clear hK K)|apply Ry.o ?_|apply bq ?_|(apply ch ?_;first|refine Rx.k (kn) ?_)|(apply aY (fun W L=>?_) (fun W L=>?_)<;>try(cases W;done))|apply ai ?_|(apply ah fun K hK=>?_)|apply aq ?_|apply am ?_|apply au ?_)
  refine qc ?_;refine aL ?_ kr;rintro v H2 ⟨⟨n3,cs,rfl,c1,c2,c3⟩,p⟩;have g2:=(p.aT _ ac ac).trans ga;obtain⟨J,I,x2,x3,x4,rfl⟩:=gw c1;dsimp only[aI];repeat' (first
   |(apply aj ?_;clear hK K)|apply Rx.o ?_|apply aD ?_|apply ai ?_|(apply ah fun K hK=>?_)|apply aq ?_|apply am ?_|apply au ?_)
  refine⟨aP,_,(by(try simp only[aM,a0,Nat.reduceBEq,Nat.reduceAdd,Nat.reduceLeDiff,tyF,cU,da,l0, *]);first|done|with_reducible rfl),?_⟩;try simp only[aN]
  exact pV rfl c2 (c3.keep (fun q h=>ac) (az _) fun _ _ _=>rfl) (fun q hq=>tV) (az _) p.get hbn (by have:=p.next;omega) (fun k o Z=>(p.aT k ac Z).trans (oa k o)) p.le
 .rename_i z;have z:i9 l i 2=false:=xl;split at h
  .rename_i h40;obtain⟨q,hq,h⟩:=bT.1 h;obtain⟨j,hj,rfl⟩:=eI.1 h;have hi1:i<l.length:=by have:=hal h40;omega
   clear hal;have ea:IntKind.wrap .i64 ((i:Int)+1)=((i+1:Nat):Int):=ei;have hbu:V.get b=some (.cells [.aq (l.map Tk.cells),.int .i64 (i:Int),.int .i64 en,.int .i64 0,.int .i64 0] 0 true):=U;clear U;repeat' (first
    |(apply aj ?_;clear hK K)|apply Ry.o ?_|apply bq ?_|(apply ch ?_;first|refine Rx.k (kn) ?_|refine Rx.k (ka _) ?_)|(apply aY (fun W L=>?_) (fun W L=>?_)<;>try(cases W;done))|apply ai ?_|(apply ah fun K hK=>?_)|apply aq ?_|apply am ?_|apply au ?_)
   refine qc ?_;refine aL ?_ (ih (i+1) q ac hq _ ⟨yC,jt⟩);rintro v H2 ⟨⟨n3,cs,rfl,c1,c2,c3⟩,p⟩;have hn2:V.next<=H2.next:=p.next
   have hs2:∀k,k<V.next->k≠b->H2.get k=V.get k:=fun k o Z=>(p.aT k o Z).trans yD
   have g2:=(hs2 _ ac ac).trans ga;obtain⟨J,I,x2,x3,x4,rfl⟩:=gw c1;dsimp only[aI];repeat' (first
    |(apply aj ?_;clear hK K)|apply Rx.o ?_|apply aD ?_|apply ai ?_|(apply ah fun K hK=>?_)|apply aq ?_|apply am ?_|apply au ?_)
   generalize C:(H2.alloc qf).set H2.next (.cells [J,I,x2,x3,x4] 0 true)=Hc
   have nc:H2.next+1<=Hc.next:=by rw[<-C];exact az _
   have gc:Hc.get H2.next=some (.cells [J,I,x2,x3,x4] 0 true):=by rw[<-C,bi,aB rfl]
   have oc:∀k,k<H2.next->Hc.get k=H2.get k:=fun k z=>GD
   clear C;refine qc ?_;refine aL ?_ (fX hG ((oc b ac).trans p.get) hl hj);rintro v H4 Y;have hn4:Hc.next<=H4.next:=Y.next
   have g4:H4.get H2.next=some (.cells [J,I,x2,x3,x4] 0 true):=(Y.aT _ ac ac).trans gc
   have g42:=((Y.aT H.next ac ac).trans (oc _ ac)).trans g2;have cz:(H2.next == H.next)=false:=bQ ac;have m2:(H.next == H2.next)=false:=bQ ac;dsimp only[aI];repeat' (first
    |(apply aj ?_;clear hK K)|apply Rx.o ?_|apply aD ?_|apply ai ?_|(apply ah fun K hK=>?_)|apply aq ?_|apply am ?_|apply au ?_)
   refine⟨aP,_,(by(try simp only[aM,a0,Nat.reduceBEq,Nat.reduceAdd,Nat.reduceLeDiff,tyF,cU,da,l0, *]);first|done|with_reducible rfl),?_⟩;try simp only[aN]
   exact pV rfl c2 (c3.aD (fun q _ h=>by simp only[bJ]at h;omega) ac fun k hk1 hk2=>(Y.aT k ac (by simp only[bJ]at hk1;omega)).trans (oc k ac)) (fun q hq=>tV) (az _) Y.get hbn ac (fun k o Z=>((Y.aT k ac Z).trans (oc k ac)).trans ((hs2 k ac Z).trans (oa k o))) Y.le
  .rename_i h40;have h40:bP l i 0 [40]=false:=by simpa using h40
   obtain⟨q,hq,h⟩:=bT.1 h;repeat' (first
    |(apply aj ?_;clear hK K)|apply Ry.o ?_|apply bq ?_|(apply ch ?_;first|refine Rx.k (kn) ?_|refine Rx.k (ka _) ?_)|(apply aY (fun W L=>?_) (fun W L=>?_)<;>try(cases W;done))|apply ai ?_|(apply ah fun K hK=>?_)|apply aq ?_|apply am ?_|apply au ?_)
   refine qc ?_;refine aL ?_ (sG hG U hl hq);rintro v H2 ⟨rfl,p⟩;have hn2:V.next<=H2.next:=p.next
   have g2:=(p.aT _ ac ac).trans ga;have hbu:H2.get b=some (.cells [.aq (l.map Tk.cells),.int .i64 (q.2:Int),.int .i64 en,.int .i64 0,.int .i64 0] 0 true):=p.get;have hq2:=p.le;have ka2:aX prog (aK pls tb) 25 [.ptr b 0,.int .i64 0,.ag [91]] H2 fun v H'=>v=.bool (bP l q.2 0 [91])/\H'=H2:=jM hG p.get hl ac 0 aZ [91];dsimp only[aI];split at h
   .rename_i h91;have hi1:=sF h91;have ea:IntKind.wrap .i64 ((q.2:Int)+1)=((q.2+1:Nat):Int):=ei;obtain⟨u,hu,h⟩:=bT.1 h;obtain⟨j,hj,rfl⟩:=eI.1 h;repeat' (first
     |(apply aj ?_;clear hK K)|apply Ry.o ?_|apply bq ?_|(apply ch ?_;first|refine Rx.k (ka2) ?_)|(apply aY (fun W L=>?_) (fun W L=>?_)<;>try(cases W;done))|apply ai ?_|(apply ah fun K hK=>?_)|apply aq ?_|apply am ?_|apply au ?_)
    refine qc ?_;refine aL ?_ (ih (q.2+1) u ac hu _ ⟨yC,jt⟩);rintro v O ⟨⟨n3,cs,rfl,c1,c2,c3⟩,p3⟩;have hn3:H2.next<=O.next:=p3.next
    have hs3:∀k,k<H2.next->k≠b->O.get k=H2.get k:=fun k o Z=>(p3.aT k o Z).trans yD
    have g3:=(hs3 _ ac ac).trans g2;obtain⟨J,I,x2,x3,x4,rfl⟩:=gw c1;dsimp only[aI];repeat' (first
     |(apply aj ?_;clear hK K)|apply Rx.o ?_|apply aD ?_|apply ai ?_|(apply ah fun K hK=>?_)|apply aq ?_|apply am ?_|apply au ?_)
    generalize C:(O.alloc qf).set O.next (.cells [J,I,x2,x3,x4] 0 true)=Hc
    have nc:O.next+1<=Hc.next:=by rw[<-C];exact az _
    have gc:Hc.get O.next=some (.cells [J,I,x2,x3,x4] 0 true):=by rw[<-C,bi,aB rfl]
    have oc:∀k,k<O.next->Hc.get k=O.get k:=fun k z=>GD
    clear C;refine qc ?_;refine aL ?_ (fX hG ((oc b ac).trans p3.get) hl hj);rintro v H4 Y;have hn4:Hc.next<=H4.next:=Y.next
    have g4:H4.get O.next=some (.cells [J,I,x2,x3,x4] 0 true):=(Y.aT _ ac ac).trans gc
    have g42:=((Y.aT H.next ac ac).trans (oc _ ac)).trans g3;have cz:(O.next == H.next)=false:=bQ ac;have m2:(H.next == O.next)=false:=bQ ac;have m3:(H4.next == H.next)=false:=bQ ac;have m4:(H.next == H4.next)=false:=bQ ac;have hb1:=fun H=>RM H (cs:=[J,I,x2,x3,x4]) rfl c2;dsimp only[aI];repeat' (first
     |(apply aj ?_;clear hK K)|apply Rx.o ?_|apply aD ?_|apply ai ?_|(apply ah fun K hK=>?_)|apply aq ?_|apply am ?_|apply au ?_)
    refine⟨aP,_,(by(try simp only[aM,a0,Nat.reduceBEq,Nat.reduceAdd,Nat.reduceLeDiff,tyF,cU,da,l0, *]);first|done|with_reducible rfl),?_⟩;try simp only[aN]
    refine pV (H2:=H4.alloc (.cells [J,I,x2,x3,x4] 0 true)) (n:=n3+2) rfl rfl ?_ (fun k z=>jV) (az _) (by rw[aJ,ao ac];exact Y.get) hbn eh (fun k o Z=>by rw[aJ,ao ac];exact(((Y.aT k ac Z).trans (oc k ac)).trans (hs3 k ac Z)).trans ((p.aT k ac Z).trans (oa k o))) Y.le;rw[jE];refine .cons (.int _ _) (.cons (.int _ _) (.cons (.ag _) (.cons (.int _ _) (.cons ?_ .nil))));exact cK.rows (n:=n3+1) (a:=[[J,I,x2,x3,x4]]) (b:=[u.1.cells]) ac eh fx (db _) ⟨⟨rfl,(c3.aD (fun k _ h=>by simp only[bJ]at h;omega) eh fun k hk1 hk2=>by simp only[bJ]at hk1;rw[aJ,ao ac];exact(Y.aT k ac ac).trans (oc k ac)).up ac⟩,trivial⟩
   .rename_i h91;have h91:bP l q.2 0 [91]=false:=by simpa using h91
    obtain rfl:=mO h;repeat' (first
     |(apply aj ?_;clear hK K)|apply Ry.o ?_|apply bq ?_|(apply ch ?_;first|refine Rx.k (ka2) ?_)|(apply aY (fun W L=>?_) (fun W L=>?_)<;>try(cases W;done))|apply ai ?_|(apply ah fun K hK=>?_)|apply aq ?_|apply am ?_|apply au ?_)
    refine⟨aP,_,(by(try simp only[aM,a0,Nat.reduceBEq,Nat.reduceAdd,Nat.reduceLeDiff,tyF,cU,da,l0, *]);first|done|with_reducible rfl),?_⟩;try simp only[aN]
    refine pV (H2:=H2) (n:=2) rfl rfl ?_ (fun k z=>jV) (az _) p.get hbn ac (fun k o Z=>(p.aT k ac Z).trans (oa k o)) p.le;rw[jE];exact .cons (.int _ _) (.cons (.int _ _) (.cons (.ag _) (.cons (.int _ _) (.cons .aa .nil))))
set_option maxRecDepth 100000 in
theorem Sg(W:PzL tb){en:Int}(hl:l.length<2^40){a:Ex}(hi:i<=l.length)(ih:yG l n a i=some r->pW tb l en b 149 [] i r)(h:dV l (n+1) 2 k a i=some r):pW tb l en b 130 [] i r:=by
 intro H I;have Y:zaa (aK pls tb) 130:=W.plain cC;have z:=I.lt;rw[Sb]at h;split at h
 .cases h
 rename_i o;have h45:bP l i 0 [45]=false:=by
  cases e:bP l i 0 [45]with
  |false=>rfl
  |true=>rw[e]at o;exact absurd rfl o
 have m:bP l i 0 [126]=false:=by
  cases e:bP l i 0 [126]with
  |false=>rfl
  |true=>rw[e,tN]at o;exact absurd rfl o
 have h33:bP l i 0 [33]=false:=by
  cases e:bP l i 0 [33]with
  |false=>rfl
  |true=>rw[e,tN]at o;exact absurd rfl o
 generalize U:H.alloc qf=V;have na:V.next=H.next+1:=by rw[<-U];rfl
 have oa:∀k,k+1<=H.next->V.get k=H.get k:=fun k hk=>by rw[<-U,aJ,ao ac]
 have ga:V.get H.next=some qf:=by rw[<-U,aJ,aB rfl]
 have Z:V.get b=some (.cells (dX l i en) 0 true):=(oa b z).trans I.get;have ka:∀s:qn,aX prog (aK pls tb) 25 [.ptr b 0,.int .i64 0,.ag s] V fun v H'=>v=.bool (bP l i 0 s)/\H'=V:=fun s=>jM W Z hl ac 0 aZ s;clear o;refine bA (M:=64) (rs:=[.cell 2 59]) (Y.call _) Y.aF Y.ak func130 rfl rfl GV.2 rfl ?_;dsimp only[GV,bt,Nat.reduceAdd];repeat' (first
  |(apply aj ?_;clear hK K)|apply Rx.o ?_|apply aD ?_|apply ai ?_|(apply ah fun K hK=>?_)|apply aq ?_|apply am ?_|apply au ?_)
 rw[U];clear U;repeat' (first
  |(apply aj ?_;clear hK K)|apply Ry.o ?_|(apply ch ?_;first|refine Rx.k (ka _) ?_)|(apply bS (fun O C=>?_) (fun O C=>?_)<;>try(cases O;done))|(apply aY (fun J L=>?_) (fun J L=>?_)<;>try(cases J;done))|apply ai ?_|(apply ah fun K hK=>?_)|apply aq ?_|apply am ?_|apply au ?_)
 refine qc ?_;refine aL ?_ (ih h _ ⟨Z,ac⟩);rintro v H2 ⟨⟨n3,cs,rfl,c1,c2,c3⟩,p⟩;have hn2:V.next<=H2.next:=p.next
 have g2:=(p.aT _ ac ac).trans ga;obtain⟨x0,x1,x2,x3,x4,rfl⟩:=gw c1;dsimp only[aI];repeat' (first
  |(apply aj ?_;clear hK K)|apply Rx.o ?_|apply aD ?_|apply ai ?_|(apply ah fun K hK=>?_)|apply aq ?_|apply am ?_|apply au ?_)
 refine⟨aP,_,(by(try simp only[aM,a0,Nat.reduceBEq,Nat.reduceAdd,Nat.reduceLeDiff,tyF,cU,da,l0, *]);first|done|with_reducible rfl),?_⟩;try simp only[aN]
 exact pV rfl c2 (c3.keep (fun q h=>ac) (az _) fun _ _ _=>rfl) (fun q hq=>tV) (az _) p.get z ac (fun k h1 h2=>(p.aT k ac h2).trans (oa k h1)) p.le
set_option maxRecDepth 100000 in
theorem B7{tb:qs}(hG:PzL tb){l:qx}{en:Int}{b:Nat}(hl:l.length<2^40):∀(N n:Nat),n<N->∀(m k:Nat) (a:Ex) (i:Nat) (r:Ex×Nat),i<=l.length->dV l n m k a i=some r ->
 (m=2->pW tb l en b 130 [] i r)/\(m=3->pW tb l en b 59 [] i r)/\(m=0->k<=8->pW tb l en b 102 [.int .i64 (k:Int)] i r)
 |0,n,hn,_,_,_,_,_,_,_=>by omega
 |N+1,0,hn,m,k,a,i,r,hi,h=>by rw[dV]at h;cases h
 |N+1,n+1,hn,m,k,a,i,r,hi,h=>by
  have IH:=fun m k a i r hi h=>B7 (en:=en) (b:=b) hG hl N n ac m k a i r hi h;refine⟨fun hm=>?_,fun hm=>?_,fun hm hk=>?_⟩
  .subst hm;exact Sg hG hl hi (Sf hG hl (fun i r hi h=>(IH 3 0 a i r hi h).2.1 rfl) hi) h
  .subst hm;have h3:(dV l n 0 0 a i).bind (fun r=>if bP l r.2 0 [63]then none else some r)=some r:=by rw[dV]at h;exact h
   obtain⟨q,hq,h⟩:=bT.1 h3;split at h
   .cases h
   rename_i h63;have h63:bP l q.2 0 [63]=false:=by simpa using h63
   obtain rfl:=mO h;have ihb:=(IH 0 0 a i q hi hq).2.2 rfl ac;clear IH h3;intro H hP;have hw:zaa (aK pls tb) 59:=hG.plain cC;have hbn:=hP.lt;generalize Y:H.alloc qf=Ha;have na:Ha.next=H.next+1:=by rw[<-Y];rfl
   have oa:∀k,k+1<=H.next->Ha.get k=H.get k:=fun k hk=>by rw[<-Y,aJ,ao ac]
   have ga:Ha.get H.next=some qf:=by rw[<-Y,aJ,aB rfl]
   have hba:Ha.get b=some (.cells (dX l i en) 0 true):=(oa b hbn).trans hP.get;refine bA (M:=30) (rs:=[.cell 2 59]) (hw.call _) hw.aF hw.ak func59 rfl rfl GX.2 rfl ?_;dsimp only[GX,bt,Nat.reduceAdd];repeat' (first
    |(apply aj ?_;clear hK K)|apply Rx.o ?_|apply aD ?_|apply ai ?_|(apply ah fun K hK=>?_)|apply am ?_|apply au ?_)
   rw[Y];clear Y;refine qc ?_;refine aL ?_ (ihb _ ⟨hba,ac⟩);rintro v U ⟨⟨n3,cs,rfl,c1,c2,c3⟩,p⟩;have hn2:Ha.next<=U.next:=p.next
   have g2:=(p.aT _ ac ac).trans ga;have hple:=p.le;obtain⟨x0,x1,x2,x3,x4,rfl⟩:=gw c1;dsimp only[aI];repeat' (first
    |(apply aj ?_;clear hK K)|apply Rx.o ?_|apply aD ?_|apply ai ?_|(apply ah fun K hK=>?_)|apply am ?_|apply au ?_)
   generalize hHc:(U.alloc qf).set U.next (.cells [x0,x1,x2,x3,x4] 0 true)=Hc
   have nc:U.next+1<=Hc.next:=by rw[<-hHc];exact az _
   have gc:Hc.get U.next=some (.cells [x0,x1,x2,x3,x4] 0 true):=by rw[<-hHc,bi,aB rfl]
   have oc:∀k,k+1<=U.next->Hc.get k=U.get k:=fun k hk=>GE
   clear hHc;have hbc:=(oc b ac).trans p.get;have gc2:=(oc H.next ac).trans g2;have ka:aX prog (aK pls tb) 25 [.ptr b 0,.int .i64 0,.ag [63]] Hc fun v H'=>v=.bool (bP l q.2 0 [63])/\H'=Hc:=jM hG hbc hl ac 0 aZ [63];have cz:(U.next == H.next)=false:=bQ ac;have m2:(H.next == U.next)=false:=bQ ac;repeat' (first
    |(apply aj ?_;clear hK K)|apply Ry.o ?_|apply bq ?_|(apply ch ?_;first|refine Rx.k (ka) ?_)|(apply aY (fun W L=>?_) (fun W L=>?_)<;>try(cases W;done))|apply ai ?_|(apply ah fun K hK=>?_)|apply am ?_|apply au ?_)
   refine⟨aP,_,(by(try simp only[aM,a0,Nat.reduceBEq,Nat.reduceAdd,Nat.reduceLeDiff,tyF,cU,da,l0, *]);first|done|with_reducible rfl),?_⟩;try simp only[aN]
   exact pV rfl c2 (c3.aD (fun q _ h=>ac) ac fun k hk1 hk2=>oc k hk2) (fun q hq=>tV) (az _) hbc hbn ac (fun k V Z=>(oc k ac).trans ((p.aT k ac Z).trans (oa k V))) p.le
  .subst hm;intro H hP;have hw:zaa (aK pls tb) 102:=hG.plain cC;have hbn:=hP.lt;generalize Y:H.alloc qf=Ha;have na:Ha.next=H.next+1:=by rw[<-Y];rfl
   have oa:∀k,k+1<=H.next->Ha.get k=H.get k:=fun k hk=>by rw[<-Y,aJ,ao ac]
   have ga:Ha.get H.next=some qf:=by rw[<-Y,aJ,aB rfl]
   have hba:Ha.get b=some (.cells (dX l i en) 0 true):=(oa b hbn).trans hP.get;rw[Se]at h;refine bA (M:=83) (rs:=[.cell 4 59]) (hw.call _) hw.aF hw.ak func102 rfl rfl GW.2 rfl ?_;dsimp only[GW,bt,Nat.reduceAdd];by_cases hk7:7<k
   .rw[aB hk7]at h;have hk7':(7:Int)<(k:Int):=ac;have ihu:=(IH 2 0 a i r hi h).1 rfl;repeat' (first
     |(apply aj ?_;clear hK K)|apply Ry.o ?_|apply bq ?_|(apply aY (fun W L=>?_) (fun W L=>?_)<;>try(cases W;done))|apply ai ?_|(apply ah fun K hK=>?_)|(apply ak 4 [(6,28),(10,28),(11,28),(18,28),(22,28),(25,28)] fun K hK=>?_)|(apply ak 5 [(4,12),(8,12),(11,12)] fun K hK=>?_)|(apply aV ?_;try intro _)|(apply aW ?_ ?_<;>clear hK K)|apply aU ?_|(apply fH (fun J C=>?_) (fun J C=>?_)<;>try(cases J;done))|apply aq ?_|apply am ?_|apply au ?_|apply aw ?_)
    rw[Y];clear Y;refine qc ?_;refine aL ?_ (ihu _ ⟨hba,ac⟩);rintro v U ⟨⟨n3,cs,rfl,c1,c2,c3⟩,p⟩;have hn2:Ha.next<=U.next:=p.next
    have g2:=(p.aT _ ac ac).trans ga;obtain⟨x0,x1,x2,x3,x4,rfl⟩:=gw c1;dsimp only[aI];repeat' (first
     |(apply aj ?_;clear hK K)|apply Rx.o ?_|apply aD ?_|apply ai ?_|(apply ah fun K hK=>?_)|(apply ak 4 [(6,28),(10,28),(11,28),(18,28),(22,28),(25,28)] fun K hK=>?_)|(apply ak 5 [(4,12),(8,12),(11,12)] fun K hK=>?_)|(apply aV ?_;try intro _)|(apply aW ?_ ?_<;>clear hK K)|apply aU ?_|apply aq ?_|apply am ?_|apply au ?_|apply aw ?_)
    refine⟨aP,_,(by(try simp only[aM,a0,Nat.reduceBEq,Nat.reduceAdd,Nat.reduceLeDiff,tyF,cU,da,l0, *]);first|done|with_reducible rfl),?_⟩;try simp only[aN]
    exact pV rfl c2 (c3.keep (fun q h=>ac) (az _) fun _ _ _=>rfl) (fun q hq=>tV) (az _) p.get hbn ac (fun k V Z=>(p.aT k ac Z).trans (oa k V)) p.le
   .rw[ao hk7]at h;have hk7':¬(7:Int)<(k:Int):=ac;obtain⟨q,hq,h⟩:=bT.1 h;have ihb:=(IH 0 (k+1) a i q hi hq).2.2 rfl ac;have ek:IntKind.wrap .i64 ((k:Int)+1)=((k+1:Nat):Int):=ei;repeat' (first
     |(apply aj ?_;clear hK K)|apply Ry.o ?_|apply bq ?_|(apply aY (fun W L=>?_) (fun W L=>?_)<;>try(cases W;done))|apply ai ?_|(apply ah fun K hK=>?_)|(apply ak 4 [(6,28),(10,28),(11,28),(18,28),(22,28),(25,28)] fun K hK=>?_)|(apply ak 5 [(4,12),(8,12),(11,12)] fun K hK=>?_)|(apply aV ?_;try intro _)|(apply aW ?_ ?_<;>clear hK K)|apply aU ?_|(apply fH (fun J C=>?_) (fun J C=>?_)<;>try(cases J;done))|apply aq ?_|apply am ?_|apply au ?_|apply aw ?_)
    rw[Y];clear Y;refine qc ?_;refine aL ?_ (ihb _ ⟨hba,ac⟩);clear ihb;rintro v U ⟨⟨n3,cs,rfl,c1,c2,c3⟩,p⟩;have hn2:Ha.next<=U.next:=p.next
    have g2:=(p.aT _ ac ac).trans ga;have hple:=p.le;obtain⟨x0,x1,x2,x3,x4,rfl⟩:=gw c1;dsimp only[aI];repeat' (first
     |(apply aj ?_;clear hK K)|apply Rx.o ?_|apply aD ?_|apply ai ?_|(apply ah fun K hK=>?_)|(apply ak 4 [(6,28),(10,28),(11,28),(18,28),(22,28),(25,28)] fun K hK=>?_)|(apply ak 5 [(4,12),(8,12),(11,12)] fun K hK=>?_)|(apply aV ?_;try intro _)|(apply aW ?_ ?_<;>clear hK K)|apply aU ?_|apply aq ?_|apply am ?_|apply au ?_|apply aw ?_)
    generalize hHc:(U.alloc qf).set U.next (.cells [x0,x1,x2,x3,x4] 0 true)=Hc
    have nc:U.next+1<=Hc.next:=by rw[<-hHc];exact az _
    have gc:Hc.get U.next=some (.cells [x0,x1,x2,x3,x4] 0 true):=by rw[<-hHc,bi,aB rfl]
    have oc:∀k,k+1<=U.next->Hc.get k=U.get k:=fun k hk=>GE
    clear hHc;have hbc:=(oc b ac).trans p.get;have gc2:=(oc H.next ac).trans g2;refine so [0,1,4,5] [] (fun nn E H3=>∃(a':Ex) (z n3:Nat) (cs:ql),nn<=n/\dV l nn 1 k a' z=some r/\z<=l.length/\H3.get b=some (.cells (dX l z en) 0 true)/\H3.get U.next=some (.cells cs 0 true)/\cs.length=5/\cs.all AV.one=true/\bW (fun q=>H.next<q/\q≠U.next) n3 H3 cs a'.cells/\H3.get H.next=some qf/\∀q,q<H.next->q≠b->H3.get q=H.get q) n ⟨q.1,q.2,n3,[x0,x1,x2,x3,x4],az _,h,hple,hbc,gc,rfl,c2,c3.aD (fun q V Z=>⟨ac,ac⟩) ac (fun k _ hk=>oc k hk),gc2,fun k V Z=>(oc k ac).trans ((p.aT k ac Z).trans (oa k V))⟩ ?_;clear gc gc2 hbc c3 c2 h p g2 ga hba oa oc hq hple;rintro nn E3 H3 hcE hrH hnH ⟨a',z,n4,ds,hnn,h,hi',hb3,g3,d1,d2,d3,gz,o3⟩;(try simp only[bN,bO,bu,aM,a0,Nat.reduceBEq,Nat.reduceAdd,Nat.reduceLeDiff,tyF, *]at hcE);have hn3:U.next+1<=H3.next:=ac
    clear hrH nc;cases nn with
    |zero=>rw[dV]at h;cases h
    |succ nn=>
    rw[Sd]at h;have ko:=oM hG hb3;have hbu:H3.get b=some (.cells [.aq (l.map Tk.cells),.int .i64 (z:Int),.int .i64 en,.int .i64 0,.int .i64 0] 0 true):=hb3;obtain⟨y0,y1,y2,y3,y4,rfl⟩:=gw d1;have cz:(U.next == H.next)=false:=bQ ac;have m2:(H.next == U.next)=false:=bQ ac;have fin:r=(a',z)->nM 5 l en b H r.1.cells r.2 (.agg [y0,y1,y2,y3,y4]) (H3.set H.next (.cells [y0,y1,y2,y3,y4] 0 true)):=fun e=>by
     subst e;exact pV rfl d2 (d3.keep (fun q h=>h.1) (az _) fun _ _ _=>rfl) (fun q hq=>tV) (az _) hb3 hbn ac o3 hi'
    clear hb3;by_cases hlt:z<l.length
    .have hlt':(z:Int)<l.length:=by omega
     have hgx:l[z]?=some l[z]:=bc hlt;have hix:=sE hgx;have htx:gS l z=l[z].text:=by unfold gS;rw[hgx]
     have hkd:i9 l z 3=decide (l[z].ah=3):=by unfold i9;rw[hgx]
     rw[hkd,htx]at h;clear hkd htx hgx;generalize l[z]=t at *;by_cases h3:t.ah=3
     .rw[aB (by rw[h3];rfl)]at h;have kp:=RU hG (k:=k) ac t.text H3;generalize lS k t.text=o at *;obtain⟨o1,o2⟩:=o;simp only[]at h kp;by_cases h0:o1=0
      .rw[aB h0]at h;have e:=(mO h).symm;repeat' (first
        |(apply aj ?_;clear hK K)|apply Ry.o ?_|apply bq ?_|(apply ch ?_;first|refine Rx.k (ko) ?_|refine Rx.k (kp) ?_)|(apply aY (fun W L=>?_) (fun W L=>?_)<;>try(cases W;done))|apply ai ?_|(apply ah fun K hK=>?_)|(apply ak 4 [(6,28),(10,28),(11,28),(18,28),(22,28),(25,28)] fun K hK=>?_)|(apply ak 5 [(4,12),(8,12),(11,12)] fun K hK=>?_)|(apply aV ?_;try intro _)|(apply aW ?_ ?_<;>clear hK K)|apply aU ?_|(apply fH (fun J C=>?_) (fun J C=>?_)<;>try(cases J;done))|apply aq ?_|apply am ?_|apply au ?_|apply aw ?_)
       .exact cG
       .exact cG
       .refine⟨aP,_,(by(try simp only[aM,a0,Nat.reduceBEq,Nat.reduceAdd,Nat.reduceLeDiff,tyF,cU,da,l0, *]);first|done|with_reducible rfl),?_⟩;try simp only[aN]
        exact fin e
      .rw[ao h0]at h;obtain⟨u,hu,h⟩:=bT.1 h;have ihb:=(B7 (en:=en) (b:=b) hG hl N nn ac 0 (k+1) a' (z+1) u ac hu).2.2 rfl ac;have ea:IntKind.wrap .i64 ((z:Int)+1)=((z+1:Nat):Int):=ei;repeat' (first
        |(apply aj ?_;clear hK K)|apply Ry.o ?_|apply bq ?_|(apply ch ?_;first|refine Rx.k (ko) ?_|refine Rx.k (kp) ?_)|(apply aY (fun W L=>?_) (fun W L=>?_)<;>try(cases W;done))|apply ai ?_|(apply ah fun K hK=>?_)|(apply ak 4 [(6,28),(10,28),(11,28),(18,28),(22,28),(25,28)] fun K hK=>?_)|(apply ak 5 [(4,12),(8,12),(11,12)] fun K hK=>?_)|(apply aV ?_;try intro _)|(apply aW ?_ ?_<;>clear hK K)|apply aU ?_|(apply fH (fun J C=>?_) (fun J C=>?_)<;>try(cases J;done))|apply aq ?_|apply am ?_|apply au ?_|apply aw ?_)
       .exact cG
       .exact cG
       .refine qc ?_;refine aL ?_ (ihb _ ⟨yC,jt⟩);clear ihb fin;rintro v O ⟨⟨n5,es,rfl,c1,c2,c3⟩,p⟩;have hn4:H3.next<=O.next:=p.next
        have hs4:∀q,q<H3.next->q≠b->O.get q=H3.get q:=fun q V Z=>(p.aT q V Z).trans yD
        have g4:=(hs4 U.next ac ac).trans g3;have gz4:=(hs4 H.next ac ac).trans gz;obtain⟨x0,x1,x2,x3,x4,rfl⟩:=gw c1;have m3:(O.next == U.next)=false:=bQ ac;have m4:(U.next == O.next)=false:=bQ ac;have m5:(O.next == H.next)=false:=bQ ac;have m6:(H.next == O.next)=false:=bQ ac;have m7:(U.next == O.next+1)=false:=bQ ac;have m8:(O.next+1 == U.next)=false:=bQ ac;have m9:(O.next == O.next+1)=false:=bQ ac;have ma:(O.next+1 == O.next)=false:=bQ ac;have hb1:=fun H=>GH H (cs:=[y0,y1,y2,y3,y4]) (ds:=[x0,x1,x2,x3,x4]) rfl rfl;have hb2:=fun H=>GH H (cs:=[x0,x1,x2,x3,x4]) (ds:=[y0,y1,y2,y3,y4]) rfl rfl;dsimp only[aI];cases o2
        .rw[ao aZ]at h;repeat' (first
          |(apply aj ?_;clear hK K)|apply Ry.o ?_|apply bq ?_|(apply aY (fun W L=>?_) (fun W L=>?_)<;>try(cases W;done))|apply ai ?_|(apply ah fun K hK=>?_)|(apply ak 4 [(6,28),(10,28),(11,28),(18,28),(22,28),(25,28)] fun K hK=>?_)|(apply ak 5 [(4,12),(8,12),(11,12)] fun K hK=>?_)|(apply aV ?_;try intro _)|(apply aW ?_ ?_<;>clear hK K)|apply aU ?_|(apply fH (fun J C=>?_) (fun J C=>?_)<;>try(cases J;done))|apply aq ?_|apply am ?_|apply au ?_|apply aw ?_)
         generalize I:Hp.set _ U.next (.cells [.int .i64 4,.int .i64 0,.ag [],.int .i64 o1,.sl (O.next+1) 0 2 5] 0 true)=Hf
         have fo:∀q,q<O.next->q≠U.next->Hf.get q=O.get q:=fun q V Z=>GF
         have fs:Hf.get (O.next+1)=some (.cells ([y0,y1,y2,y3,y4]++[x0,x1,x2,x3,x4]) 0 true):=GG;have fr:Hf.get U.next=some (.cells [.int .i64 4,.int .i64 0,.ag [],.int .i64 o1,.sl (O.next+1) 0 2 5] 0 true):=vH
         have fn:O.next+2<=Hf.next:=by rw[<-I];simp only[bJ,bj];omega
         clear I;have c3K:bW (fun q=>H.next<q/\q≠U.next) n5 Hf [x0,x1,x2,x3,x4] u.1.cells:=c3.aD (fun q V Z=>by simp only[bJ]at Z;omega) ac fun q V Z=>fo q Z (by simp only[bJ]at V;omega);have d3K:bW (fun q=>H.next<q/\q≠U.next) n4 Hf [y0,y1,y2,y3,y4] a'.cells:=d3.aD (fun q V Z=>Z) ac fun q V Z=>(fo q ac V.2).trans (hs4 q Z ac);exact⟨bm,bm,ac,nn,ct _,Ex.mk 4 0 [] o1 [a',u.1],u.2,_,_,ac,h,p.le,(fo b ac ac).trans p.get,fr,rfl,rfl,GY o1 d3K c3K rfl rfl ⟨ac,ac⟩ ac fs,(fo H.next ac ac).trans gz4,fun q V Z=>(fo q ac ac).trans ((hs4 q ac Z).trans (o3 q V Z))⟩
        .rw[aB rfl]at h;repeat' (first
          |(apply aj ?_;clear hK K)|apply Ry.o ?_|apply bq ?_|(apply aY (fun W L=>?_) (fun W L=>?_)<;>try(cases W;done))|apply ai ?_|(apply ah fun K hK=>?_)|(apply ak 4 [(6,28),(10,28),(11,28),(18,28),(22,28),(25,28)] fun K hK=>?_)|(apply ak 5 [(4,12),(8,12),(11,12)] fun K hK=>?_)|(apply aV ?_;try intro _)|(apply aW ?_ ?_<;>clear hK K)|apply aU ?_|(apply fH (fun J C=>?_) (fun J C=>?_)<;>try(cases J;done))|apply aq ?_|apply am ?_|apply au ?_|apply aw ?_)
         generalize I:Hp.set _ U.next (.cells [.int .i64 4,.int .i64 0,.ag [],.int .i64 o1,.sl (O.next+1) 0 2 5] 0 true)=Hf
         have fo:∀q,q<O.next->q≠U.next->Hf.get q=O.get q:=fun q V Z=>GF
         have fs:Hf.get (O.next+1)=some (.cells ([x0,x1,x2,x3,x4]++[y0,y1,y2,y3,y4]) 0 true):=GG;have fr:Hf.get U.next=some (.cells [.int .i64 4,.int .i64 0,.ag [],.int .i64 o1,.sl (O.next+1) 0 2 5] 0 true):=vH
         have fn:O.next+2<=Hf.next:=by rw[<-I];simp only[bJ,bj];omega
         clear I;have c3K:bW (fun q=>H.next<q/\q≠U.next) n5 Hf [x0,x1,x2,x3,x4] u.1.cells:=c3.aD (fun q V Z=>by simp only[bJ]at Z;omega) ac fun q V Z=>fo q Z (by simp only[bJ]at V;omega);have d3K:bW (fun q=>H.next<q/\q≠U.next) n4 Hf [y0,y1,y2,y3,y4] a'.cells:=d3.aD (fun q V Z=>Z) ac fun q V Z=>(fo q ac V.2).trans (hs4 q Z ac);exact⟨bm,bm,ac,nn,ct _,Ex.mk 4 0 [] o1 [u.1,a'],u.2,_,_,ac,h,p.le,(fo b ac ac).trans p.get,fr,rfl,rfl,GY o1 c3K d3K rfl rfl ⟨ac,ac⟩ ac fs,(fo H.next ac ac).trans gz4,fun q V Z=>(fo q ac ac).trans ((hs4 q ac Z).trans (o3 q V Z))⟩
     .rw[ao (by simpa using h3)]at h;have e:=(mO h).symm;repeat' (first
       |(apply aj ?_;clear hK K)|apply Ry.o ?_|apply bq ?_|(apply ch ?_;first|refine Rx.k (ko) ?_)|(apply aY (fun W L=>?_) (fun W L=>?_)<;>try(cases W;done))|apply ai ?_|(apply ah fun K hK=>?_)|(apply ak 4 [(6,28),(10,28),(11,28),(18,28),(22,28),(25,28)] fun K hK=>?_)|(apply ak 5 [(4,12),(8,12),(11,12)] fun K hK=>?_)|(apply aV ?_;try intro _)|(apply aW ?_ ?_<;>clear hK K)|apply aU ?_|(apply fH (fun J C=>?_) (fun J C=>?_)<;>try(cases J;done))|apply aq ?_|apply am ?_|apply au ?_|apply aw ?_)
      .exact cG
      .refine⟨aP,_,(by(try simp only[aM,a0,Nat.reduceBEq,Nat.reduceAdd,Nat.reduceLeDiff,tyF,cU,da,l0, *]);first|done|with_reducible rfl),?_⟩;try simp only[aN]
       exact fin e
    .have hlt':¬(z:Int)<l.length:=by omega
     have hkd:i9 l z 3=false:=by unfold i9;rw[jm ac]
     rw[hkd]at h;have e:=(mO h).symm;repeat' (first
      |(apply aj ?_;clear hK K)|apply Ry.o ?_|apply bq ?_|(apply ch ?_;first|refine Rx.k (ko) ?_)|(apply aY (fun W L=>?_) (fun W L=>?_)<;>try(cases W;done))|apply ai ?_|(apply ah fun K hK=>?_)|(apply ak 4 [(6,28),(10,28),(11,28),(18,28),(22,28),(25,28)] fun K hK=>?_)|(apply ak 5 [(4,12),(8,12),(11,12)] fun K hK=>?_)|(apply aV ?_;try intro _)|(apply aW ?_ ?_<;>clear hK K)|apply aU ?_|(apply fH (fun J C=>?_) (fun J C=>?_)<;>try(cases J;done))|apply aq ?_|apply am ?_|apply au ?_|apply aw ?_)
     .exact cG
     .refine⟨aP,_,(by(try simp only[aM,a0,Nat.reduceBEq,Nat.reduceAdd,Nat.reduceLeDiff,tyF,cU,da,l0, *]);first|done|with_reducible rfl),?_⟩;try simp only[aN]
      exact fin e
end
section
def tyG4.tyF:=ad @cJ (ad @jH (ad @eC (ad @Fh (ad @fw (ad @cM (ad @eg (ad @dJ (@io))))))))
open tyG4
def Sh:Ex:=.mk 0 0 [] 0 []
def nN(k:Int)(nm Y:qn)(n:Int)(a v:ql)(C I J:AV):ql:=[.int .i64 k,.ag nm,.ag Y,.int .i64 n]++a++v++[C,I,J]
def vQ(k:Int)(nm Y:qn)(Z:Int){V W:Ex}{al:qC}{ts es:qy}(U:bW S (n+1) H a V.cells)(O:bW S (n+1) H v W.cells)(h1:cK S (n+1) H C (.aq (al.map Ex.cells)))(h2:cK S (n+1) H I (.aq (ts.map St.cells)))(M:cK S (n+1) H J (.aq (es.map St.cells))):
 bW S (n+1) H (nN k nm Y Z a v C I J) (St.mk k nm Y Z V W al ts es).cells:=by
 have e:(St.mk k nm Y Z V W al ts es).cells=[.int .i64 k,.ag nm,.ag Y,.int .i64 Z]++V.cells++W.cells++[.aq (al.map Ex.cells),.aq (ts.map St.cells),.aq (es.map St.cells)]:=by
  rw[rZ,jE,jE];rfl
 rw[e];exact(((bW.cons (.int _ _) (.cons (.ag _) (.cons (.ag _) (.cons (.int _ _) .nil)))).append U).append O).append (.cons h1 (.cons h2 (.cons M .nil)))
def mP:ql:=[.int .i64 0,.int .i64 0,.ag [],.int .i64 0,.aa]
def yH:bW S (n+1) H mP Sh.cells:=Rr 0 0 0 []
def Sk(k:Int)(nm Y:qn)(n:Int)(Z:a.length=5)(W:v.length=5)(C I J:AV):(nN k nm Y n a v C I J).length=17:=by simp[nN,Z,W]
theorem vR(k:Int)(nm Y:qn)(n:Int)(Z:a.all AV.one=true)(W:v.all AV.one=true)(h1:AV.one C=true)(h2:AV.one I=true)(V:AV.one J=true):(nN k nm Y n a v C I J).all AV.one=true:=by
 simp only[nN,u5,Z,W,nL,oL,h1,h2,V,kJ,ox];rfl
def GZ(h:cs.length=17):∃c0 L m Z Y W V C U O M J I z o d5 d6,cs=[c0,L,m,Z,Y,W,V,C,U,O,M,J,I,z,o,d5,d6]:=by
 match cs,h with
 |[c0,L,m,Z,Y,W,V,C,U,O,M,J,I,z,o,d5,d6],_=>exact⟨c0,L,m,Z,Y,W,V,C,U,O,M,J,I,z,o,d5,d6,rfl⟩
def G3(H:Hp)(h:cs.length=17):ec prog H 61 1 [(0,.agg cs)]=some (.sl H.next 0 1 17,H.alloc (.cells cs 0 true)):=by
 obtain⟨c0,L,m,Z,Y,W,V,C,U,O,M,J,I,z,o,d5,d6,rfl⟩:=GZ h;kernel_rfl
end
section
def G4{P:Program}{cfg:Cfg}{f N:Nat}{a:SC}{E:ax}{Q:AX->ax->Hp->Prop}(F:ax->Hp->Prop)(h1:bU P cfg f N a E H fun x E' H'=>x=.normal/\F E' H')(h2:∀E' H',F E' H'->Q .normal E' H'):bU P cfg f N a E H Q:=
 tA (fun x E' H' h=>by obtain⟨rfl,h⟩:=h;exact h2 E' H' h) h1
theorem pX(c0 L m Z Y W V C U O M J I z o d5 d6:AV):cr 17 [c0,L,m,Z,Y,W,V,C,U,O,M,J,I,z,o,d5,d6]=some (.agg [c0,L,m,Z,Y,W,V,C,U,O,M,J,I,z,o,d5,d6]):=rfl
def pY{a b d e:AV}(h:[a,b,c,d,e].all AV.one=true):AV.one a=true/\AV.one b=true/\AV.one c=true/\AV.one d=true/\AV.one e=true:=by
 simp only[nL,oL,kJ,ca]at h;exact⟨h.1,h.2.1,h.2.2.1,h.2.2.2.1,h.2.2.2.2⟩
def tyPzG.tyF:=ad @ef (ad @cJ (ad @cM (ad @kS (ad @eg (ad @dJ (ad @eC (ad @lV (ad @sn (ad @fw (@pX))))))))))
open tyPzG
noncomputable def G5:{c:SC // aG 21 (f100.body.getD .skip)=c}:=by
 refine⟨?_,?_⟩;rotate_left
 .simp only[f100,bK,aG,bF,bw,bH,bI,Nat.blt,Nat.ble];rfl
noncomputable def G6:{c:SC // aG 93 (f58.body.getD .skip)=c}:=by
 refine⟨?_,?_⟩;rotate_left
 .simp only[f58,bK,aG,bF,bw,bH,bI,Nat.blt,Nat.ble];rfl
noncomputable def G7:{c:SC // aG 75 (f101.body.getD .skip)=c}:=by
 refine⟨?_,?_⟩;rotate_left
 .simp only[f101,bK,aG,bF,bw,bH,bI,Nat.blt,Nat.ble];rfl
theorem pZ(U:PzL tb){en:Int}(W:l.length<2^40)(J:i<=l.length)(h:ja l n i=some r):pW tb l en b 59 [] i r:=(B7 U W (n+1) n (ct _) 3 0 mG i r J h).2.1 rfl
structure SqZ (l:qx) (en:Int) (b:Nat) (H:Hp) (zs:ql) (i:Nat) (cs:ql) (K:Hp):Prop where
 gb:K.get b=some (.cells [.aq (l.map Tk.cells),.int .i64 (i:Int),.int .i64 en,.int .i64 0,.int .i64 0] 0 true)
 gz:K.get H.next=some (.cells zs 0 true)
 g3:K.get (H.next+1)=some (.cells cs 0 true)
 hb:b<H.next
 nx:H.next+2<=K.next
 le:i<=l.length
 dW:∀k,k<H.next->k≠b->K.get k=H.get k
section
variable {l:qx} {en:Int} {b:Nat} {H K K' K2:Hp} {zs cs:ql} {i j:Nat}
def SqZ.aW(h:SqZ l en b H zs i cs K):zau l en b i K:=⟨h.gb,by have:=h.hb;have:=h.nx;omega⟩
def SqZ.start(h:zau l en b i H)(J:i<=l.length):SqZ l en b H zs i zs ((H.alloc (.cells zs 0 true)).alloc (.cells zs 0 true)):=by
 have C:=h.lt;refine⟨?_,?_,?_,C,az _,J,fun k o m=>?_⟩
 .simp only[aJ,bj];rw[ao ac,ao ac];exact h.get
 .simp only[aJ,bj];rw[ao ac,aB trivial]
 .simp only[aJ,bj];rw[aB trivial]
 .simp only[aJ,bj];rw[ao ac,ao ac]
def SqZ.call(h:SqZ l en b H zs i cs K)(p:PrP l en b K j K'):SqZ l en b H zs j cs K':=by
 have C:=h.hb;have M:=h.nx;have hp:=p.next
 exact⟨p.get,(p.aT _ ac ac).trans h.gz,(p.aT _ ac ac).trans h.g3,C,ac,p.le,fun k o m=>(p.aT k ac m).trans (h.dW k o m)⟩
def SqZ.dC(h:SqZ l en b H zs i cs K)(I:j<=l.length):SqZ l en b H zs j cs (K.set b (.cells [.aq (l.map Tk.cells),.int .i64 (j:Int),.int .i64 en,.int .i64 0,.int .i64 0] 0 true)):=by
 have C:=h.hb;exact⟨eT,by rw[bi,ao ac];exact h.gz,by rw[bi,ao ac];exact h.g3,C,h.nx,I,fun k o m=>by rw[bi,ao m];exact h.dW k o m⟩
def SqZ.put(h:SqZ l en b H zs i cs K)(cs':ql):SqZ l en b H zs i cs' (K.set (H.next+1) (.cells cs' 0 true)):=by
 have C:=h.hb;exact⟨by rw[bi,ao ac];exact h.gb,by rw[bi,ao ac];exact h.gz,eT,C,h.nx,h.le,fun k o m=>by rw[bi,ao ac];exact h.dW k o m⟩
def de(H K J:Hp):Prop:=K.next<=J.next/\∀k,H.next+1<k->k<K.next->J.get k=K.get k
def SqZ.frC(h:SqZ l en b H zs i cs K)(p:PrP l en b K j K'):de H K K':=⟨p.next,fun k o m=>p.aT k m (by have:=h.hb;omega)⟩
def SqZ.d0(h:SqZ l en b H zs i cs K):de H K (K.set b x):=⟨az _,fun k o m=>by have:=h.hb;rw[bi,ao ac]⟩
def de.put:de H K (K.set (H.next+1) x):=⟨az _,fun k o m=>yp⟩
def tX:=@de.put
def de.trans(h:de H K K')(U:de H K' K2):de H K K2:=⟨dq h.1 U.1,fun k o m=>(U.2 k o (jW m h.1)).trans (h.2 k o m)⟩
end
def bW.fq{J:Hp}{c w:ql}(h:bW (fun k=>H.next+1<k) n K c w)(f:de H K J):bW (fun k=>H.next+1<k) n J c w:=h.keep (fun _ h=>h) f.1 fun k o m=>f.2 k o m
def cK.fq{J:Hp}{w:AV}(h:cK (fun k=>H.next+1<k) n K c w)(f:de H K J):cK (fun k=>H.next+1<k) n J c w:=h.keep (fun _ h=>h) f.1 fun k o m=>f.2 k o m
def SqZ.fin{z:Nat}{en:Int}{O m:ql}(h:SqZ l en b H O i cs K)(W:cs.length=z)(h1:cs.all AV.one=true)(L:bW (fun k=>H.next+1<k) n K cs m):nM z l en b H m i (.agg cs) (K.set H.next (.cells cs 0 true)):=by
 have C:=h.hb;have M:=h.nx;exact⟨⟨n,cs,rfl,W,h1,L.aD (fun k _ h=>ac) (az _) fun k Y _=>yp⟩,⟨by rw[bi,ao ac];exact h.gb,jt,fun k h1 Z=>by rw[bi,ao ac];exact h.dW k h1 Z,h.le⟩⟩
def yI(tb:qs)(l:qx)(en:Int)(b:Nat)(f:FuncId)(i:Nat)(r:St×Nat):Prop:=∀H:Hp,zau l en b i H->aX prog (aK pls tb) f [.ptr b 0] H (nM 17 l en b H r.1.cells r.2)
def yJ(l:qx)(n i:Nat):Option (St×Nat):=(jq l i).bind fun s=>
 if bP l s.2 0 [91]then (ja l n (s.2+1)).bind fun a=>(cS l a.2 [93]).bind fun i=>(cS l i [61]).bind fun i=>(ja l n i).map fun c=>(.mk 2 s.1 [] 0 a.1 c.1 [] [] [],c.2)
 else (cS l s.2 [61]).bind fun i=>if lR l i 0&&bP l i 1 [40]then none else (ja l n i).map fun c=>(.mk 1 s.1 [] 0 mG c.1 [] [] [],c.2)
abbrev qj:HB:=.cells [.int .i64 0,.ag [],.ag [],.int .i64 0,.int .i64 0,.int .i64 0,.ag [],.int .i64 0,.aa,.int .i64 0,.int .i64 0,.ag [],.int .i64 0,.aa,.aa,.aa,.aa] 0 true
set_option maxRecDepth 100000 in
def Sl(U:PzL tb){en:Int}(W:l.length<2^40){r:St×Nat}(hi:i<=l.length)(h:yJ l n i=some r):yI tb l en b 101 i r:=by
 intro H hP;have hw:zaa (aK pls tb) 101:=U.plain cC;have hbn:=hP.lt;have cz:(H.next+1 == H.next)=false:=bQ ac;have m2:(H.next == H.next+1)=false:=bQ ac;have m3:(H.next+1 == b)=false:=bQ ac;have m4:(b == H.next+1)=false:=bQ ac;generalize hHa:(H.alloc qj).alloc qj=K0;have Q0:SqZ l en b H [.int .i64 0,.ag [],.ag [],.int .i64 0,.int .i64 0,.int .i64 0,.ag [],.int .i64 0,.aa,.int .i64 0,.int .i64 0,.ag [],.int .i64 0,.aa,.aa,.aa,.aa] i [.int .i64 0,.ag [],.ag [],.int .i64 0,.int .i64 0,.int .i64 0,.ag [],.int .i64 0,.aa,.int .i64 0,.int .i64 0,.ag [],.int .i64 0,.aa,.aa,.aa,.aa] K0:=B2;refine bA (M:=75) (rs:=[.cell 2 124]) (hw.call _) hw.aF hw.ak func101 rfl rfl G7.2 rfl ?_;dsimp only[G7,bt,Nat.reduceAdd];repeat' (first
  |(apply aj ?_;clear hK K)|apply Rx.o ?_|apply aD ?_|apply ai ?_|(apply ah fun K hK=>?_)|apply am ?_|apply au ?_)
 rw[hHa];clear hHa;unfold yJ at h;obtain⟨q,hq,h⟩:=bT.1 h;refine qc ?_;refine aL ?_ (sG U Q0.gb W hq);rintro v K1 ⟨rfl,p⟩;have Q1:=Q0.call p;clear p Q0;dsimp only[aI];have m:=Q1.g3;repeat' (first
  |(apply aj ?_;clear hK K)|apply Rx.o ?_|apply aD ?_|apply ai ?_|(apply ah fun K hK=>?_)|apply am ?_|apply au ?_)
 generalize hK:Hp.set K1 _ _=K2;have f2:de H K1 K2:=jL;have Q2:=Q1.put [.int .i64 0,.ag q.1,.ag [],.int .i64 0,.int .i64 0,.int .i64 0,.ag [],.int .i64 0,.aa,.int .i64 0,.int .i64 0,.ag [],.int .i64 0,.aa,.aa,.aa,.aa];rw[hK]at Q2;clear hK;clear m f2 Q1;have hq2:=Q2.le;have ka:∀s:qn,aX prog (aK pls tb) 25 [.ptr b 0,.int .i64 0,.ag s] K2 fun v H'=>v=.bool (bP l q.2 0 s)/\H'=K2:=fun s=>jM U Q2.gb W ac 0 aZ s;split at h
 .rename_i h91;obtain⟨u,hu,h⟩:=bT.1 h;obtain⟨i2,hi2,h⟩:=bT.1 h;obtain⟨i3,hi3,h⟩:=bT.1 h;obtain⟨c,hc,rfl⟩:=eI.1 h;clear h;have hi1:=sF h91;have ea:IntKind.wrap .i64 ((q.2:Int)+1)=((q.2+1:Nat):Int):=ei;have m:=Q2.g3;have gb:=Q2.gb;repeat' (first
   |(apply aj ?_;clear hK K)|apply Ry.o ?_|apply bq ?_|(apply ch ?_;first|refine Rx.k (ka _) ?_)|(apply bS (fun Y C=>?_) (fun Y C=>?_)<;>try(cases Y;done))|(apply aY (fun V L=>?_) (fun V L=>?_)<;>try(cases V;done))|apply ai ?_|(apply ah fun K hK=>?_)|apply am ?_|apply au ?_)
  generalize hK:Hp.set _ b _=o;have f3:de H K2 o:=by rw[<-hK];exact de.trans tX (Q2.put _).d0
  have I:=(Q2.put [.int .i64 2,.ag q.1,.ag [],.int .i64 0,.int .i64 0,.int .i64 0,.ag [],.int .i64 0,.aa,.int .i64 0,.int .i64 0,.ag [],.int .i64 0,.aa,.aa,.aa,.aa]).dC (j:=q.2+1) ac;rw[hK]at I;clear hK;clear m gb ka f3 Q2;refine qc ?_;refine aL ?_ (pZ U W I.le hu o I.aW);rintro v K4 ⟨⟨n4,xs4,rfl,O,c2,z⟩,p⟩;have f4:=I.frC p;have v4:bW (fun k=>H.next+1<k) n4 K4 xs4 u.1.cells:=z.aD (fun k _ h=>by have:=I.nx;omega) (az _) fun _ _ _=>rfl;have J:=I.call p;obtain⟨x40,x41,x42,x43,x44,rfl⟩:=gw O;obtain⟨w40,w41,w42,w43,w44⟩:=pY c2;clear O z p;dsimp only[aI];clear I f4;have m:=J.g3;repeat' (first
   |(apply aj ?_;clear hK K)|apply Rx.o ?_|apply aD ?_|apply ai ?_|(apply ah fun K hK=>?_)|apply am ?_|apply au ?_)
  generalize hK:Hp.set K4 _ _=K5;have f5:de H K4 K5:=jL;have Z:=J.put [.int .i64 2,.ag q.1,.ag [],.int .i64 0,x40,x41,x42,x43,x44,.int .i64 0,.int .i64 0,.ag [],.int .i64 0,.aa,.aa,.aa,.aa];rw[hK]at Z;clear hK;have v5:=v4.fq f5;clear m J v4 f5;refine qc ?_;refine aL ?_ (fX U Z.gb W hi2);rintro v K6 p;have f6:=Z.frC p;have Q6:=Z.call p;clear p;dsimp only[aI];repeat' (first
   |(apply aj ?_;clear hK K)|apply Rx.o ?_|apply aD ?_|apply ai ?_|(apply ah fun K hK=>?_)|apply am ?_|apply au ?_)
  have v6:=v5.fq f6;clear Z v5 f6;refine qc ?_;refine aL ?_ (fX U Q6.gb W hi3);rintro v K7 p;have f7:=Q6.frC p;have Q7:=Q6.call p;clear p;dsimp only[aI];repeat' (first
   |(apply aj ?_;clear hK K)|apply Rx.o ?_|apply aD ?_|apply ai ?_|(apply ah fun K hK=>?_)|apply am ?_|apply au ?_)
  have v7:=v6.fq f7;clear Q6 v6 f7;refine qc ?_;refine aL ?_ (pZ U W Q7.le hc K7 Q7.aW);rintro v K8 ⟨⟨n8,xs8,rfl,O,c2,z⟩,p⟩;have f8:=Q7.frC p;have v8:bW (fun k=>H.next+1<k) n8 K8 xs8 c.1.cells:=z.aD (fun k _ h=>by have:=Q7.nx;omega) (az _) fun _ _ _=>rfl;have Q8:=Q7.call p;obtain⟨x80,x81,x82,x83,x84,rfl⟩:=gw O;obtain⟨w80,w81,w82,w83,w84⟩:=pY c2;clear O z p;dsimp only[aI];have a8:=v7.fq f8;clear Q7 v7 f8;have m:=Q8.g3;have gz:=Q8.gz;repeat' (first
   |(apply aj ?_;clear hK K)|apply Rx.o ?_|apply aD ?_|apply ai ?_|(apply ah fun K hK=>?_)|apply am ?_|apply au ?_)
  refine⟨aP,_,(by(try simp only[aM,a0,Nat.reduceBEq,Nat.reduceAdd,Nat.reduceLeDiff,tyF,cU,da,pX, *]);first|done|with_reducible rfl),?_⟩;try simp only[aN]
  have Q9:=Q8.put [.int .i64 2,.ag q.1,.ag [],.int .i64 0,x40,x41,x42,x43,x44,x80,x81,x82,x83,x84,.aa,.aa,.aa];exact Q9.fin (n:=max n4 n8+5) rfl (vR 2 q.1 [] 0 (a:=[x40,x41,x42,x43,x44]) (v:=[x80,x81,x82,x83,x84]) (by simp only[nL,oL,w40,w41,w42,w43,w44,ox]) (by simp only[nL,oL,w80,w81,w82,w83,w84,ox]) rfl rfl rfl) (vQ (n:=max n4 n8+4) (al:=[]) (ts:=[]) (es:=[]) 2 q.1 [] 0 ((a8.fq tX).up ac) ((v8.fq tX).up ac) .aa .aa .aa)
 .rename_i h91;have h91:bP l q.2 0 [91]=false:=by simpa using h91
  obtain⟨i2,hi2,h⟩:=bT.1 h;repeat' (first
   |(apply aj ?_;clear hK K)|apply Ry.o ?_|apply bq ?_|(apply ch ?_;first|refine Rx.k (ka _) ?_)|(apply bS (fun Y C=>?_) (fun Y C=>?_)<;>try(cases Y;done))|(apply aY (fun V L=>?_) (fun V L=>?_)<;>try(cases V;done))|apply ai ?_|(apply ah fun K hK=>?_)|apply am ?_|apply au ?_)
  refine qc ?_;refine aL ?_ (fX U Q2.gb W hi2);rintro v o p;have f3:=Q2.frC p;have I:=Q2.call p;clear p;dsimp only[aI];repeat' (first
   |(apply aj ?_;clear hK K)|apply Rx.o ?_|apply aD ?_|apply ai ?_|(apply ah fun K hK=>?_)|apply am ?_|apply au ?_)
  clear Q2 ka f3;split at h
  .cases h
  rename_i hna;obtain⟨c,hc,rfl⟩:=eI.1 h;clear h;have hna:(lR l i2 0&&bP l i2 1 [40])=false:=by simpa using hna
  have hi4:=I.le;have kn:aX prog (aK pls tb) 56 [.ptr b 0,.int .i64 0] o fun v H'=>v=.bool (lR l i2 0)/\H'=o:=GS U I.gb W ac 0 aZ;have ka2:aX prog (aK pls tb) 25 [.ptr b 0,.int .i64 1,.ag [40]] o fun v H'=>v=.bool (bP l i2 1 [40])/\H'=o:=jM U I.gb W ac 1 aZ [40];have m:=I.g3;have fin:∀{n5:Nat}{K5:Hp} (xs:ql),xs.length=5->xs.all AV.one=true->SqZ l en b H [.int .i64 0,.ag [],.ag [],.int .i64 0,.int .i64 0,.int .i64 0,.ag [],.int .i64 0,.aa,.int .i64 0,.int .i64 0,.ag [],.int .i64 0,.aa,.aa,.aa,.aa] c.2 (nN 1 q.1 [] 0 mP mP .aa .aa .aa) K5->bW (fun k=>H.next+1<k) n5 K5 xs c.1.cells->nM 17 l en b H (St.mk 1 q.1 [] 0 mG c.1 [] [] []).cells c.2 (.agg (nN 1 q.1 [] 0 mP xs .aa .aa .aa)) ((K5.set (H.next+1) (.cells (nN 1 q.1 [] 0 mP xs .aa .aa .aa) 0 true)).set H.next (.cells (nN 1 q.1 [] 0 mP xs .aa .aa .aa) 0 true)):=fun{n5 K5} xs h1 h2 h3 h4=>by
   have Q9:=h3.put (nN 1 q.1 [] 0 mP xs .aa .aa .aa);exact Q9.fin (n:=n5+5) (Sk 1 q.1 [] 0 rfl h1 _ _ _) (vR 1 q.1 [] 0 (a:=mP) (v:=xs) rfl h2 rfl rfl rfl) (vQ (n:=n5+4) (al:=[]) (ts:=[]) (es:=[]) 1 q.1 [] 0 yH ((h4.fq tX).up ac) .aa .aa .aa)
  cases hnm:lR l i2 0 with
  |false=>
   rw[hnm]at kn;repeat' (first
    |(apply aj ?_;clear hK K)|apply Ry.o ?_|apply bq ?_|(apply ch ?_;first|refine Rx.k (kn) ?_|refine Rx.k (ka2) ?_)|(apply bS (fun Y C=>?_) (fun Y C=>?_)<;>try(cases Y;done))|(apply aY (fun V L=>?_) (fun V L=>?_)<;>try(cases V;done))|apply ai ?_|(apply ah fun K hK=>?_)|apply am ?_|apply au ?_)
   generalize hK:Hp.set o _ _=K4;have f4:de H o K4:=jL;have J:=I.put [.int .i64 1,.ag q.1,.ag [],.int .i64 0,.int .i64 0,.int .i64 0,.ag [],.int .i64 0,.aa,.int .i64 0,.int .i64 0,.ag [],.int .i64 0,.aa,.aa,.aa,.aa];rw[hK]at J;clear hK;clear m kn ka2 f4 I;refine qc ?_;refine aL ?_ (pZ U W J.le hc K4 J.aW);rintro v K5 ⟨⟨n5,xs5,rfl,O,c2,z⟩,p⟩;have f5:=J.frC p;have v5:bW (fun k=>H.next+1<k) n5 K5 xs5 c.1.cells:=z.aD (fun k _ h=>by have:=J.nx;omega) (az _) fun _ _ _=>rfl;have Z:=J.call p;obtain⟨x50,x51,x52,x53,x54,rfl⟩:=gw O;obtain⟨w50,w51,w52,w53,w54⟩:=pY c2;clear O z p;dsimp only[aI];clear J f5;have m:=Z.g3;have gz:=Z.gz;repeat' (first
    |(apply aj ?_;clear hK K)|apply Rx.o ?_|apply aD ?_|apply ai ?_|(apply ah fun K hK=>?_)|apply am ?_|apply au ?_)
   refine⟨aP,_,(by(try simp only[aM,a0,Nat.reduceBEq,Nat.reduceAdd,Nat.reduceLeDiff,tyF,cU,da,pX, *]);first|done|with_reducible rfl),?_⟩;try simp only[aN]
   exact fin [x50,x51,x52,x53,x54] rfl c2 Z v5
  |true=>
   rw[hnm]at kn;rw[hnm,gm]at hna;rw[hna]at ka2;repeat' (first
    |(apply aj ?_;clear hK K)|apply Ry.o ?_|apply bq ?_|(apply ch ?_;first|refine Rx.k (kn) ?_|refine Rx.k (ka2) ?_)|(apply bS (fun Y C=>?_) (fun Y C=>?_)<;>try(cases Y;done))|(apply aY (fun V L=>?_) (fun V L=>?_)<;>try(cases V;done))|apply ai ?_|(apply ah fun K hK=>?_)|apply am ?_|apply au ?_)
   generalize hK:Hp.set o _ _=K4;have f4:de H o K4:=jL;have J:=I.put [.int .i64 1,.ag q.1,.ag [],.int .i64 0,.int .i64 0,.int .i64 0,.ag [],.int .i64 0,.aa,.int .i64 0,.int .i64 0,.ag [],.int .i64 0,.aa,.aa,.aa,.aa];rw[hK]at J;clear hK;clear m kn ka2 f4 I;refine qc ?_;refine aL ?_ (pZ U W J.le hc K4 J.aW);rintro v K5 ⟨⟨n5,xs5,rfl,O,c2,z⟩,p⟩;have f5:=J.frC p;have v5:bW (fun k=>H.next+1<k) n5 K5 xs5 c.1.cells:=z.aD (fun k _ h=>by have:=J.nx;omega) (az _) fun _ _ _=>rfl;have Z:=J.call p;obtain⟨x50,x51,x52,x53,x54,rfl⟩:=gw O;obtain⟨w50,w51,w52,w53,w54⟩:=pY c2;clear O z p;dsimp only[aI];clear J f5;have m:=Z.g3;have gz:=Z.gz;repeat' (first
    |(apply aj ?_;clear hK K)|apply Rx.o ?_|apply aD ?_|apply ai ?_|(apply ah fun K hK=>?_)|apply am ?_|apply au ?_)
   refine⟨aP,_,(by(try simp only[aM,a0,Nat.reduceBEq,Nat.reduceAdd,Nat.reduceLeDiff,tyF,cU,da,pX, *]);first|done|with_reducible rfl),?_⟩;try simp only[aN]
   exact fin [x50,x51,x52,x53,x54] rfl c2 Z v5
def G8(tb:qs)(l:qx)(en:Int)(b:Nat)(i:Nat)(r:qy×Nat):Prop:=∀H:Hp,zau l en b i H->aX prog (aK pls tb) 100 [.ptr b 0] H fun v H'=>(∃n,(AV.one v=true/\v.cells=[v])/\cK (fun q=>H.next<=q) n H' v (.aq (r.1.map St.cells)))/\PrP l en b H r.2 H'
def tY(l:qx)(n d i:Nat):Option (qy×Nat):=(cS l i [123]).bind fun j=>(gT.many l 0 (gT l n d) [125] d j).bind fun r=>(cS l r.2 [125]).map fun j=>(r.1,j)
def G9(l:qx)(f:Nat->Option (St×Nat))(e:qn)(m i:Nat):gT.many l 0 f e (m+1) i=if bP l i 0 e then some ([],i)else (f i).bind fun s=>(gT.many l 0 f e m s.2).map fun r=>(s.1::r.1,r.2):=by rw[gT.many]
theorem Sn(l:qx)(n d i:Nat):gT l n (d+1) i=if bP l i 0 [105,102]then (cS l (i+1) [40]).bind fun i=>(ja l n i).bind fun c=>(cS l c.2 [41]).bind fun i=>(tY l n d i).bind fun b=>if bP l b.2 0 [101,108,115,101]then none else some (.mk 3 [] [] 0 mG c.1 [] b.1 [],b.2)
 else if bP l i 0 [119,104,105,108,101]then (cS l (i+1) [40]).bind fun i=>(ja l n i).bind fun c=>(cS l c.2 [41]).bind fun i=>(tY l n d i).bind fun b=>some (.mk 4 [] [] 0 mG c.1 [] b.1 [],b.2)
 else if bP l i 0 [111,117,116]then (ja l n (i+1)).bind fun c=>(cS l c.2 [59]).map fun j=>(.mk 5 [] [] 0 mG c.1 [] [] [],j)
 else if bP l i 0 [116,114,97,112]then none
 else (yJ l n i).bind fun s=>(cS l s.2 [59]).map fun j=>(s.1,j):=by
 rw[gT];simp only[tY,yJ];split
 .rfl
 split
 .rfl
 split
 .rfl
 split
 .rfl
 cases jq l i with
 |none=>rfl
 |some s=>
  simp only[cQ];split
  .cases ja l n (s.2+1)<;>simp only[tW,cQ];rename_i a;cases cS l a.2 [93]<;>simp only[tW,cQ];rename_i C;cases cS l C [61]<;>simp only[tW,cQ];rename_i M;cases ja l n M<;>simp only[tW,cQ,Option.map_none,iG]
  .cases cS l s.2 [61]<;>simp only[tW,cQ];rename_i M;split
   .rfl
   .cases ja l n M<;>simp only[tW,cQ,Option.map_none,iG]
set_option maxRecDepth 100000 in
theorem So(hG:PzL tb){en:Int}(hl:l.length<2^40){r:qy×Nat}(hd:d<2^20)(ih:∀(i:Nat) (r:St×Nat),i<=l.length->gT l n d i=some r->yI tb l en b 58 i r)(hi:i<=l.length)(h:tY l n d i=some r):G8 tb l en b i r:=by
 intro H hP;have hw:zaa (aK pls tb) 100:=hG.plain cC;have hkeep:(aK pls tb).keep 100=false:=rfl;have hbn:=hP.lt;unfold tY at h;obtain⟨i1,e1,h⟩:=bT.1 h;obtain⟨⟨ss,i2⟩,Y,h⟩:=bT.1 h;obtain⟨j,e3,rfl⟩:=eI.1 h;clear h;simp only[]at e3;refine bA (M:=21) (rs:=[.tmp 2]) (hw.call _) hw.aF hw.ak func100 rfl rfl G5.2 rfl ?_;dsimp only[G5,bt,Nat.reduceAdd];repeat' (first
  |(apply aj ?_;clear hK K)|apply Rx.o ?_|apply ai ?_|(apply ah fun K hK=>?_)|apply aq ?_|apply am ?_|apply au ?_|apply aw ?_)
 refine qc ?_;refine aL ?_ (fX hG hP.get hl e1);rintro v K1 p;have hn1:=p.next
 have hle1:=p.le;dsimp only[aI];repeat' (first
  |(apply aj ?_;clear hK K)|apply Rx.o ?_|apply ai ?_|(apply ah fun K hK=>?_)|apply aq ?_|apply am ?_|apply au ?_|apply aw ?_)
 refine so [0,2] [] (fun nn E V=>∃(O z:qy) (I n4:Nat) (lv:AV),nn<=d/\gT.many l 0 (gT l n d) [125] nn I=some (z,i2)/\I<=l.length/\V.get b=some (.cells (dX l I en) 0 true)/\E.at 3=lv/\b7 (fun q=>H.next<=q) n4 V 17 lv (O.map St.cells)/\O++z=ss/\O.length+nn<=d/\(∀q,q<H.next->q≠b->V.get q=H.get q)) d ⟨[],ss,i1,0,.aa,az _,Y,hle1,p.get,eE,.inl ⟨rfl,rfl⟩,rfl,aE,p.aT⟩ ?_;clear Y;rintro nn E3 V hcE hrH hnH ⟨O,z,I,n4,lv,hnn,Y,hi',U,k3,Z,hss,hlen,o3⟩;(try simp only[bN,bO,bu,aM,a0,Nat.reduceBEq,Nat.reduceAdd,Nat.reduceLeDiff,tyF, *]at hcE);have hn3:H.next<=V.next:=ac
 clear hrH p hn1 hle1;cases nn with
 |zero=>rw[gT.many]at Y;cases Y
 |succ nn=>
 rw[G9]at Y;have ko:=oM hG U;have ka:aX prog (aK pls tb) 25 [.ptr b 0,.int .i64 0,.ag [125]] V fun v H'=>v=.bool (bP l I 0 [125])/\H'=V:=jM hG U hl ac 0 aZ [125];split at Y
 .rename_i J;obtain⟨rfl,rfl⟩:[]=z/\I=i2:=pr;rw[ij]at hss;subst hss;repeat' (first
   |(apply aj ?_;clear hK K)|apply Ry.o ?_|(apply ch ?_;first|refine Rx.k (ko) ?_|refine Rx.k (ka) ?_)|(apply bS (fun hg hgp=>?_) (fun hg hgp=>?_)<;>try(cases hg;done))|(apply aY (fun hb hbp=>?_) (fun hb hbp=>?_)<;>try(cases hb;done))|apply ai ?_|(apply ah fun K hK=>?_)|apply aq ?_|apply am ?_|apply au ?_|apply aw ?_)
  refine qc ?_;refine aL ?_ (fX hG U hl e3);rintro v K4 p;have hn4:=p.next
  dsimp only[aI];repeat' (first
   |(apply aj ?_;clear hK K)|apply Rx.o ?_|apply ai ?_|(apply ah fun K hK=>?_)|apply aq ?_|apply am ?_|apply au ?_|apply aw ?_)
  refine⟨aP,_,yk,?_⟩;try simp only[aN]
  exact⟨⟨_,Z.one,(Z.keep (S':=fun q=>H.next<=q) (fun _ _ h=>h) p.next fun k h1 W=>p.aT k W ac).rd⟩,⟨p.get,ac,fun k h1 W=>(p.aT k ac W).trans (o3 k h1 W),p.le⟩⟩
 .rename_i J;have J:bP l I 0 [125]=false:=tn;obtain⟨s,hs,Y⟩:=bT.1 Y;obtain⟨⟨rs,j2⟩,e5,e4⟩:=eI.1 Y;obtain⟨rfl,rfl⟩:s.1::rs=z/\j2=i2:=by simpa using e4
  clear e4;repeat' (first
   |(apply aj ?_;clear hK K)|apply Ry.o ?_|(apply ch ?_;first|refine Rx.k (ko) ?_|refine Rx.k (ka) ?_)|(apply bS (fun hg hgp=>?_) (fun hg hgp=>?_)<;>try(cases hg;done))|(apply aY (fun hb hbp=>?_) (fun hb hbp=>?_)<;>try(cases hb;done))|apply ai ?_|(apply ah fun K hK=>?_)|apply aq ?_|apply am ?_|apply au ?_|apply aw ?_)
  refine qc ?_;refine aL ?_ (ih I s hi' hs V ⟨U,ac⟩);rintro v' H4 ⟨⟨n5,cs,rfl,hc1,hc2,hc3⟩,p⟩;have hn4:=p.next
  have kb:=fun H=>G3 H hc1;dsimp only[aI];repeat' (first
   |(apply aj ?_;clear hK K)|apply Rx.o ?_|apply ai ?_|(apply ah fun K hK=>?_)|apply aq ?_|apply am ?_|apply au ?_|apply aw ?_)
  have hvq:∀q o m L,lv=.sl q o m L->H.next<=q/\q<V.next:=fun q o m L e=>by
   rcases Z with⟨h0,_⟩|⟨q',imm,rows,h0,e1,Y,_⟩
   .rw[h0]at e;cases e
   .rw[h0]at e;simp only[AV.sl.injEq]at e;rw[<-e.1];exact⟨e1,Y⟩
  have C:b7 (fun q=>H.next<=q) (max n4 n5) (H4.alloc (.cells cs 0 true)) 17 lv (O.map St.cells):=(Z.up ac).keep (fun q _ h=>h) eh fun q h1 W=>by rw[aJ,ao ac,p.aT q W ac]
  obtain⟨v5,H5,a5,s5,n5',f5,q5⟩:=b7.push (P:=prog) (t:=61) underlying61 ye By Bz rfl aF C eh (r:=H4.next) (imm:=0) (row:=cs) (w:=s.1.cells) jB hc1 hc2 ((hc3.up ac).aD (fun q h1 W=>⟨ac,fun o m L e=>by have:=(hvq q o m L e).2;omega⟩) (dB _) fun q h1 W=>fC) nJ nJ;refine rY iM iM (by rw[hkeep];exact a5) ?_;simp only[bj]at n5' f5;have hn5:H4.next+1<=H5.next:=ac
  have hb5:H5.get b=some (.cells (dX l s.2 en) 0 true):=by rw[f5 b ac (fun o m L e=>by have:=(hvq b o m L e).1;omega),aJ,ao ac];exact p.get
  have o5:∀q,q<H.next->q≠b->H5.get q=H.get q:=fun q h1 W=>by rw[f5 q ac (fun o m L e=>by have:=(hvq q o m L e).1;omega),aJ,ao ac,p.aT q ac W,o3 q h1 W]
  clear n5' f5 a5 C;repeat' (first
   |(apply aj ?_;clear hK K)|apply Rx.o ?_|apply ai ?_|(apply ah fun K hK=>?_)|apply aq ?_|apply am ?_|apply au ?_|apply aw ?_)
  exact⟨bm,bm,ac,nn,ct _,O++[s.1],rs,s.2,_,v5,ac,e5,p.le,hb5,eE,by rw[mD];exact s5,by rw[lD];exact hss,nK,o5⟩
def Sp{c0 L m Z Y W V U O M z o d5 d6:AV}(h:[c0,L,m,Z,Y,W,V,C,U,O,M,J,I,z,o,d5,d6].all AV.one=true):AV.one c0=true/\AV.one L=true/\AV.one m=true/\AV.one Z=true/\AV.one Y=true/\AV.one W=true/\AV.one V=true/\AV.one C=true/\AV.one U=true/\AV.one O=true/\AV.one M=true/\AV.one J=true/\AV.one I=true/\AV.one z=true/\AV.one o=true/\AV.one d5=true/\AV.one d6=true:=by
 simpa only[nL,oL,kJ,ca]using h
set_option maxRecDepth 100000 in
def Sq(hG:PzL tb){en:Int}(hl:l.length<2^40){r:St×Nat}(ihb:∀(i:Nat) (r:qy×Nat),i<=l.length->tY l n d i=some r->G8 tb l en b i r)(hi:i<=l.length)(h:gT l n (d+1) i=some r):yI tb l en b 58 i r:=by
 intro H hP;have hw:zaa (aK pls tb) 58:=hG.plain cC;have hbn:=hP.lt;have cz:(H.next+1 == H.next)=false:=bQ ac;have m2:(H.next == H.next+1)=false:=bQ ac;have m3:(H.next+1 == b)=false:=bQ ac;have m4:(b == H.next+1)=false:=bQ ac;generalize hHa:(H.alloc qj).alloc qj=K0;have z:SqZ l en b H [.int .i64 0,.ag [],.ag [],.int .i64 0,.int .i64 0,.int .i64 0,.ag [],.int .i64 0,.aa,.int .i64 0,.int .i64 0,.ag [],.int .i64 0,.aa,.aa,.aa,.aa] i [.int .i64 0,.ag [],.ag [],.int .i64 0,.int .i64 0,.int .i64 0,.ag [],.int .i64 0,.aa,.int .i64 0,.int .i64 0,.ag [],.int .i64 0,.aa,.aa,.aa,.aa] K0:=B2;refine bA (M:=93) (rs:=[.cell 2 124]) (hw.call _) hw.aF hw.ak func58 rfl rfl G6.2 rfl ?_;dsimp only[G6,bt,Nat.reduceAdd];repeat' (first
  |(apply aj ?_;clear hK K)|apply Rx.o ?_|apply aD ?_|apply ai ?_|(apply ah fun K hK=>?_)|apply aq ?_|apply am ?_|apply au ?_)
 rw[hHa];clear hHa;rw[Sn]at h;have ka:∀s:qn,aX prog (aK pls tb) 25 [.ptr b 0,.int .i64 0,.ag s] K0 fun v H'=>v=.bool (bP l i 0 s)/\H'=K0:=fun s=>jM hG z.gb hl ac 0 aZ s;have O:=fun s:qn=>sF (l:=l) (i:=i) (k:=0) (s:=s);have ea:i+1<=l.length->IntKind.wrap .i64 ((i:Int)+1)=((i+1:Nat):Int):=fun _=>ei;have I:=z.g3;have gb:=z.gb;split at h
 .rename_i hif;obtain⟨i1,e1,h⟩:=bT.1 h;obtain⟨c,hc,h⟩:=bT.1 h;obtain⟨i2,e2,h⟩:=bT.1 h;obtain⟨bl,hbl,h⟩:=bT.1 h;split at h
  .cases h
  rename_i hel;have hel:bP l bl.2 0 [101,108,115,101]=false:=by simpa using hel
  obtain rfl:=mO h;clear h;have hi2:=O _ hif;have ea:=ea ac;repeat' (first
   |(apply aj ?_;clear hK K)|apply Ry.o ?_|apply bq ?_|(apply ch ?_;first|refine Rx.k (ka _) ?_)|(apply aY (fun m L=>?_) (fun m L=>?_)<;>try(cases m;done))|apply ai ?_|(apply ah fun K hK=>?_)|apply aq ?_|apply am ?_|apply au ?_)
  generalize hK:Hp.set _ b _=K1;have f1:de H K0 K1:=B3;have C:=(z.put [.int .i64 3,.ag [],.ag [],.int .i64 0,.int .i64 0,.int .i64 0,.ag [],.int .i64 0,.aa,.int .i64 0,.int .i64 0,.ag [],.int .i64 0,.aa,.aa,.aa,.aa]).dC (j:=i+1) ac;rw[hK]at C;clear hK;clear I gb ka f1 z O ea;refine qc ?_;refine aL ?_ (fX hG C.gb hl e1);rintro v K2 p;have f2:=C.frC p;have Q2:=C.call p;clear p;dsimp only[aI];repeat' (first
   |(apply aj ?_;clear hK K)|apply Rx.o ?_|apply aD ?_|apply ai ?_|(apply ah fun K hK=>?_)|apply aq ?_|apply am ?_|apply au ?_)
  clear C f2;refine qc ?_;refine aL ?_ (pZ hG hl Q2.le hc K2 Q2.aW);rintro v K3 ⟨⟨n3,xs3,rfl,c1,c2,c3⟩,p⟩;have f3:=Q2.frC p;have v3:bW (fun k=>H.next+1<k) n3 K3 xs3 c.1.cells:=c3.aD (fun k _ h=>by have:=Q2.nx;omega) (az _) fun _ _ _=>rfl;have Z:=Q2.call p;obtain⟨Y,W,V,J,U,rfl⟩:=gw c1;obtain⟨w30,w31,w32,w33,w34⟩:=pY c2;clear c1 c3 p;dsimp only[aI];clear Q2 f3;have I:=Z.g3;repeat' (first
   |(apply aj ?_;clear hK K)|apply Rx.o ?_|apply aD ?_|apply ai ?_|(apply ah fun K hK=>?_)|apply aq ?_|apply am ?_|apply au ?_)
  generalize hK:Hp.set K3 _ _=K4;have f4:de H K3 K4:=jL;have o:=Z.put [.int .i64 3,.ag [],.ag [],.int .i64 0,.int .i64 0,.int .i64 0,.ag [],.int .i64 0,.aa,Y,W,V,J,U,.aa,.aa,.aa];rw[hK]at o;clear hK;have v4:=v3.fq f4;clear I Z v3 f4;refine qc ?_;refine aL ?_ (fX hG o.gb hl e2);rintro v K5 p;have f5:=o.frC p;have Q5:=o.call p;clear p;dsimp only[aI];repeat' (first
   |(apply aj ?_;clear hK K)|apply Rx.o ?_|apply aD ?_|apply ai ?_|(apply ah fun K hK=>?_)|apply aq ?_|apply am ?_|apply au ?_)
  have v5:=v4.fq f5;clear o v4 f5;refine qc ?_;refine aL ?_ (ihb i2 bl Q5.le hbl K5 Q5.aW);rintro tv K6 ⟨⟨n6,o6,r6⟩,p⟩;have f6:=Q5.frC p;have r6:cK (fun k=>H.next+1<k) n6 K6 tv (.aq (bl.1.map St.cells)):=r6.keep (fun k h=>by have:=Q5.nx;omega) (az _) fun _ _ _=>rfl;have Q6:=Q5.call p;have v6:=v5.fq f6;clear p Q5 v5 f6;obtain⟨o6a,o6b⟩:=o6;dsimp only[aI];have I:=Q6.g3;repeat' (first
   |(apply aj ?_;clear hK K)|apply Rx.o ?_|apply aD ?_|apply ai ?_|(apply ah fun K hK=>?_)|apply aq ?_|apply am ?_|apply au ?_)
  generalize hK:Hp.set K6 _ _=K7;have f7:de H K6 K7:=jL;have Q7:=Q6.put [.int .i64 3,.ag [],.ag [],.int .i64 0,.int .i64 0,.int .i64 0,.ag [],.int .i64 0,.aa,Y,W,V,J,U,.aa,tv,.aa];rw[hK]at Q7;clear hK;have v7:=v6.fq f7;have r7:=r6.fq f7;clear I Q6 v6 r6 f7;have hq7:=Q7.le;have ka2:aX prog (aK pls tb) 25 [.ptr b 0,.int .i64 0,.ag [101,108,115,101]] K7 fun v H'=>v=.bool (bP l bl.2 0 [101,108,115,101])/\H'=K7:=jM hG Q7.gb hl ac 0 aZ [101,108,115,101];have I:=Q7.g3;have gz:=Q7.gz;repeat' (first
   |(apply aj ?_;clear hK K)|apply Ry.o ?_|apply bq ?_|(apply ch ?_;first|refine Rx.k (ka2) ?_)|(apply aY (fun m L=>?_) (fun m L=>?_)<;>try(cases m;done))|apply ai ?_|(apply ah fun K hK=>?_)|apply aq ?_|apply am ?_|apply au ?_)
  refine⟨aP,_,(by(try simp only[aM,a0,Nat.reduceBEq,Nat.reduceAdd,Nat.reduceLeDiff,tyF,cU,da,pX, *]);first|done|with_reducible rfl),?_⟩;try simp only[aN]
  exact Q7.fin (n:=max n3 n6+5) rfl (vR 3 [] [] 0 (a:=mP) (v:=[Y,W,V,J,U]) rfl GC rfl o6a rfl) (vQ (n:=max n3 n6+4) (al:=[]) (es:=[]) 3 [] [] 0 yH (v7.up ac) .aa (r7.up ac) .aa)
 rename_i hif;have hif:bP l i 0 [105,102]=false:=by simpa using hif
 split at h
 .rename_i hwh;obtain⟨i1,e1,h⟩:=bT.1 h;obtain⟨c,hc,h⟩:=bT.1 h;obtain⟨i2,e2,h⟩:=bT.1 h;obtain⟨bl,hbl,h⟩:=bT.1 h;obtain rfl:=mO h;clear h;have hi2:=O _ hwh;have ea:=ea ac;repeat' (first
   |(apply aj ?_;clear hK K)|apply Ry.o ?_|apply bq ?_|(apply ch ?_;first|refine Rx.k (ka _) ?_)|(apply aY (fun m L=>?_) (fun m L=>?_)<;>try(cases m;done))|apply ai ?_|(apply ah fun K hK=>?_)|apply aq ?_|apply am ?_|apply au ?_)
  generalize hK:Hp.set _ b _=K1;have f1:de H K0 K1:=B3;have C:=(z.put [.int .i64 4,.ag [],.ag [],.int .i64 0,.int .i64 0,.int .i64 0,.ag [],.int .i64 0,.aa,.int .i64 0,.int .i64 0,.ag [],.int .i64 0,.aa,.aa,.aa,.aa]).dC (j:=i+1) ac;rw[hK]at C;clear hK;clear I gb ka f1 z O ea;refine qc ?_;refine aL ?_ (fX hG C.gb hl e1);rintro v K2 p;have f2:=C.frC p;have Q2:=C.call p;clear p;dsimp only[aI];repeat' (first
   |(apply aj ?_;clear hK K)|apply Rx.o ?_|apply aD ?_|apply ai ?_|(apply ah fun K hK=>?_)|apply aq ?_|apply am ?_|apply au ?_)
  clear C f2;refine qc ?_;refine aL ?_ (pZ hG hl Q2.le hc K2 Q2.aW);rintro v K3 ⟨⟨n3,xs3,rfl,c1,c2,c3⟩,p⟩;have f3:=Q2.frC p;have v3:bW (fun k=>H.next+1<k) n3 K3 xs3 c.1.cells:=c3.aD (fun k _ h=>by have:=Q2.nx;omega) (az _) fun _ _ _=>rfl;have Z:=Q2.call p;obtain⟨Y,W,V,J,U,rfl⟩:=gw c1;obtain⟨w30,w31,w32,w33,w34⟩:=pY c2;clear c1 c3 p;dsimp only[aI];clear Q2 f3;have I:=Z.g3;repeat' (first
   |(apply aj ?_;clear hK K)|apply Rx.o ?_|apply aD ?_|apply ai ?_|(apply ah fun K hK=>?_)|apply aq ?_|apply am ?_|apply au ?_)
  generalize hK:Hp.set K3 _ _=K4;have f4:de H K3 K4:=jL;have o:=Z.put [.int .i64 4,.ag [],.ag [],.int .i64 0,.int .i64 0,.int .i64 0,.ag [],.int .i64 0,.aa,Y,W,V,J,U,.aa,.aa,.aa];rw[hK]at o;clear hK;have v4:=v3.fq f4;clear I Z v3 f4;refine qc ?_;refine aL ?_ (fX hG o.gb hl e2);rintro v K5 p;have f5:=o.frC p;have Q5:=o.call p;clear p;dsimp only[aI];repeat' (first
   |(apply aj ?_;clear hK K)|apply Rx.o ?_|apply aD ?_|apply ai ?_|(apply ah fun K hK=>?_)|apply aq ?_|apply am ?_|apply au ?_)
  have v5:=v4.fq f5;clear o v4 f5;refine qc ?_;refine aL ?_ (ihb i2 bl Q5.le hbl K5 Q5.aW);rintro tv K6 ⟨⟨n6,o6,r6⟩,p⟩;have f6:=Q5.frC p;have r6:cK (fun k=>H.next+1<k) n6 K6 tv (.aq (bl.1.map St.cells)):=r6.keep (fun k h=>by have:=Q5.nx;omega) (az _) fun _ _ _=>rfl;have Q6:=Q5.call p;have v6:=v5.fq f6;clear p Q5 v5 f6;obtain⟨o6a,o6b⟩:=o6;dsimp only[aI];have I:=Q6.g3;have gz:=Q6.gz;repeat' (first
   |(apply aj ?_;clear hK K)|apply Rx.o ?_|apply aD ?_|apply ai ?_|(apply ah fun K hK=>?_)|apply aq ?_|apply am ?_|apply au ?_)
  refine⟨aP,_,(by(try simp only[aM,a0,Nat.reduceBEq,Nat.reduceAdd,Nat.reduceLeDiff,tyF,cU,da,pX, *]);first|done|with_reducible rfl),?_⟩;try simp only[aN]
  have Q7:=Q6.put [.int .i64 4,.ag [],.ag [],.int .i64 0,.int .i64 0,.int .i64 0,.ag [],.int .i64 0,.aa,Y,W,V,J,U,.aa,tv,.aa];exact Q7.fin (n:=max n3 n6+5) rfl (vR 4 [] [] 0 (a:=mP) (v:=[Y,W,V,J,U]) rfl GC rfl o6a rfl) (vQ (n:=max n3 n6+4) (al:=[]) (es:=[]) 4 [] [] 0 yH ((v6.fq tX).up ac) .aa ((r6.fq tX).up ac) .aa)
 rename_i hwh;have hwh:bP l i 0 [119,104,105,108,101]=false:=by simpa using hwh
 split at h
 .rename_i hou;obtain⟨c,hc,h⟩:=bT.1 h;obtain⟨j,e1,rfl⟩:=eI.1 h;clear h;have hi2:=O _ hou;have ea:=ea ac;repeat' (first
   |(apply aj ?_;clear hK K)|apply Ry.o ?_|apply bq ?_|(apply ch ?_;first|refine Rx.k (ka _) ?_)|(apply aY (fun m L=>?_) (fun m L=>?_)<;>try(cases m;done))|apply ai ?_|(apply ah fun K hK=>?_)|apply aq ?_|apply am ?_|apply au ?_)
  generalize hK:Hp.set _ b _=K1;have f1:de H K0 K1:=B3;have C:=(z.put [.int .i64 5,.ag [],.ag [],.int .i64 0,.int .i64 0,.int .i64 0,.ag [],.int .i64 0,.aa,.int .i64 0,.int .i64 0,.ag [],.int .i64 0,.aa,.aa,.aa,.aa]).dC (j:=i+1) ac;rw[hK]at C;clear hK;clear I gb ka f1 z O ea;refine qc ?_;refine aL ?_ (pZ hG hl C.le hc K1 C.aW);rintro v K2 ⟨⟨n2,xs2,rfl,c1,c2,c3⟩,p⟩;have f2:=C.frC p;have v2:bW (fun k=>H.next+1<k) n2 K2 xs2 c.1.cells:=c3.aD (fun k _ h=>by have:=C.nx;omega) (az _) fun _ _ _=>rfl;have Q2:=C.call p;obtain⟨x20,x21,x22,x23,x24,rfl⟩:=gw c1;obtain⟨w20,w21,w22,w23,w24⟩:=pY c2;clear c1 c3 p;dsimp only[aI];clear C f2;have I:=Q2.g3;repeat' (first
   |(apply aj ?_;clear hK K)|apply Rx.o ?_|apply aD ?_|apply ai ?_|(apply ah fun K hK=>?_)|apply aq ?_|apply am ?_|apply au ?_)
  generalize hK:Hp.set K2 _ _=K3;have f3:de H K2 K3:=jL;have Z:=Q2.put [.int .i64 5,.ag [],.ag [],.int .i64 0,.int .i64 0,.int .i64 0,.ag [],.int .i64 0,.aa,x20,x21,x22,x23,x24,.aa,.aa,.aa];rw[hK]at Z;clear hK;have v3:=v2.fq f3;clear I Q2 v2 f3;refine qc ?_;refine aL ?_ (fX hG Z.gb hl e1);rintro v K4 p;have f4:=Z.frC p;have o:=Z.call p;clear p;dsimp only[aI];repeat' (first
   |(apply aj ?_;clear hK K)|apply Rx.o ?_|apply aD ?_|apply ai ?_|(apply ah fun K hK=>?_)|apply aq ?_|apply am ?_|apply au ?_)
  have v4:=v3.fq f4;clear Z v3 f4;have I:=o.g3;have gz:=o.gz;repeat' (first
   |(apply aj ?_;clear hK K)|apply Rx.o ?_|apply aD ?_|apply ai ?_|(apply ah fun K hK=>?_)|apply aq ?_|apply am ?_|apply au ?_)
  refine⟨aP,_,(by(try simp only[aM,a0,Nat.reduceBEq,Nat.reduceAdd,Nat.reduceLeDiff,tyF,cU,da,pX, *]);first|done|with_reducible rfl),?_⟩;try simp only[aN]
  exact o.fin (n:=n2+5) rfl (vR 5 [] [] 0 (a:=mP) (v:=[x20,x21,x22,x23,x24]) rfl (by simp only[nL,oL,w20,w21,w22,w23,w24,ox]) rfl rfl rfl) (vQ (n:=n2+4) (al:=[]) (ts:=[]) (es:=[]) 5 [] [] 0 yH (v4.up ac) .aa .aa .aa)
 rename_i hou;have hou:bP l i 0 [111,117,116]=false:=by simpa using hou
 split at h
 .cases h
 rename_i htr;have htr:bP l i 0 [116,114,97,112]=false:=by simpa using htr
 obtain⟨s,hs,h⟩:=bT.1 h;obtain⟨j,e1,rfl⟩:=eI.1 h;clear h;repeat' (first
  |(apply aj ?_;clear hK K)|apply Ry.o ?_|apply bq ?_|(apply ch ?_;first|refine Rx.k (ka _) ?_)|(apply aY (fun m L=>?_) (fun m L=>?_)<;>try(cases m;done))|apply ai ?_|(apply ah fun K hK=>?_)|apply aq ?_|apply am ?_|apply au ?_)
 clear I gb ka O ea;refine qc ?_;refine aL ?_ (Sl hG hl hi hs K0 z.aW);rintro v K1 ⟨⟨dW,ds,rfl,l1,dM,v1⟩,p⟩;have f1:=z.frC p;have v1:bW (fun k=>H.next+1<k) dW K1 ds s.1.cells:=v1.aD (fun k _ h=>by have:=z.nx;omega) (az _) fun _ _ _=>rfl;have C:=z.call p;clear p z;obtain⟨c0,c1,c2,c3,c4,c5,c6,c7,c8,c9,d0,d1,d2,d3,d4,d5,d6,rfl⟩:=GZ l1;have a17:=Sp dM;dsimp only[aI];have I:=C.g3;repeat' (first
  |(apply aj ?_;clear hK K)|apply Rx.o ?_|apply aD ?_|apply ai ?_|(apply ah fun K hK=>?_)|apply aq ?_|apply am ?_|apply au ?_)
 generalize hK:Hp.set K1 _ _=K2;have f2:de H K1 K2:=jL;have Q2:=C.put [c0,c1,c2,c3,c4,c5,c6,c7,c8,c9,d0,d1,d2,d3,d4,d5,d6];rw[hK]at Q2;clear hK;have v2:=v1.fq f2;clear I f2 C v1;refine qc ?_;refine aL ?_ (fX hG Q2.gb hl e1);rintro v K3 p;have f3:=Q2.frC p;have Z:=Q2.call p;clear p;dsimp only[aI];repeat' (first
  |(apply aj ?_;clear hK K)|apply Rx.o ?_|apply aD ?_|apply ai ?_|(apply ah fun K hK=>?_)|apply aq ?_|apply am ?_|apply au ?_)
 have v3:=v2.fq f3;clear Q2 v2 f3;have I:=Z.g3;have gz:=Z.gz;repeat' (first
  |(apply aj ?_;clear hK K)|apply Rx.o ?_|apply aD ?_|apply ai ?_|(apply ah fun K hK=>?_)|apply aq ?_|apply am ?_|apply au ?_)
 refine⟨aP,_,(by(try simp only[aM,a0,Nat.reduceBEq,Nat.reduceAdd,Nat.reduceLeDiff,tyF,cU,da,pX, *]);first|done|with_reducible rfl),?_⟩;try simp only[aN]
 exact Z.fin rfl dM v3
theorem He{tb:qs}(U:PzL tb){l:qx}{en:Int}{b:Nat}(W:l.length<2^40){n:Nat}:∀d:Nat,d<2^20->∀(i:Nat) (r:St×Nat),i<=l.length->gT l n d i=some r->yI tb l en b 58 i r
 |0,_,i,r,_,h=>by rw[gT]at h;cases h
 |d+1,hd,i,r,J,h=>Sq U W (fun i r J h=>So U W ac (fun i r J h=>He U W d ac i r J h) J h) J h
end
end Go.Proofs.Ytbflaciihaijgaa
