/- Lemmas for the last file. -/
import Derived.Test.YtbflaciihaijgaaSEG
set_option linter.all false
set_option maxHeartbeats 32000000
namespace Go.Ab
set_option maxRecDepth 20000
open Go
variable{qb:Prop}
def dH(h:qb:=by rfl):=h
def r1(h:qb:=by rw[Hp.get_set,if_neg A]):=h
def mH(h:qb:=by rw[Hp.get_set,if_neg hq]):=h
def ut(h:qb:=by rw[Hp.get_set,if_pos rfl];rfl):=h
def oW(h:qb:=by simp only[cH];omega):=h
def uu(h:qb:=by rw[<- hHa];exact SqZ.start hP hi):=h
def fH(h:qb:=by rw[<- hK];exact ch.put):=h
def iZ(h:qb:=by simp only[List.length_map,cm];omega):=h
def mI(h:qb:=by simp only[List.length_append,List.length_cons,List.length_nil];omega):=h
def uv(h:qb:=by rw[<- hK];exact ch.trans ch.put (V.put _).dC):=h
def yo(h:qb:=by simp only[List.all_cons,List.all_nil,w30,w31,w32,w33,w34,Bool.and_self]):=h
def yp(h:qb:=by rw[<- U,Hp.get_set,if_neg aa,aP,if_neg aa]):=h
def uw(h:qb:=by rw[<- O,aP,if_neg aa]):=h
def yq(h:qb:=by rw[<- F,Hp.get_set,if_neg aa,aP,if_neg aa]):=h
def yr(h:qb:=by rw[<- J];simp only[Hp.get_set,aP,cH,cb];repeat rw[if_neg aa]):=h
def yu(h:qb:=by rw[<- J];simp only[Hp.get_set,aP,cH,cb];rw[if_neg aa,if_pos trivial];rfl):=h
def yw(h:qb:=by rw[Hp.get_set,if_neg aa];exact h.dQ k m o):=h
def lG:=@List.all_cons
def lH:=@List.all_nil
def io:=@Option.some.inj
def cD:=@Option.bind_some
def mJ:=@Option.bind_none
end Go.Ab
namespace Go.Proofs.Ytbflaciihaijgaa
set_option maxRecDepth 20000
open Go Go.Ab Proofs.Try
variable{cs Z a v:qh}{tb:qs}{l:qn}{i b j n d:Nat}{H K I:Hp}{r:Ex×Nat}{S:Nat->Prop}{o M O c:AV}{x:HB}
section
namespace tyG3
end tyG3
open tyG3
def FB(s:qi):dA prog 59 [(0,.int .i64 2),(2,.ad s)]=some (.agg [.int .i64 2,.int .i64 0,.ad s,.int .i64 0,.ab]):=az
def FC(s:qi)(r n:Nat):dA prog 59 [(0,.int .i64 3),(2,.ad s),(4,.sl r 0 n 5)]=some (.agg [.int .i64 3,.int .i64 0,.ad s,.int .i64 0,.sl r 0 n 5]):=az
def FD(o:Int)(r n:Nat):dA prog 59 [(0,.int .i64 4),(3,.int .i64 o),(4,.sl r 0 n 5)]=some (.agg [.int .i64 4,.int .i64 0,.ad [],.int .i64 o,.sl r 0 n 5]):=az
def dY(h:cs.length=5):∃a b c d e,cs=[a,b,c,d,e]:=by
 match cs,h with
 |[a,b,c,d,e],_=>exact⟨a,b,c,d,e,rfl⟩
def FE(H:Hp)(h:cs.length=5)(m:cs.all AV.one=true):eu prog H 57 1 [(0,.agg cs)]=some (.sl H.next 0 1 5,H.alloc (.cells cs 0 true)):=by
 obtain⟨a,b,c,d,e,rfl⟩:=dY h;kernel_rfl
def yx(H:Hp){ds:qh}(h:cs.length=5)(k:ds.length=5):eu prog H 57 2 [(0,.agg cs),(1,.agg ds)]=some (.sl H.next 0 2 5,H.alloc (.cells (cs++ds) 0 true)):=by
 obtain⟨a,b,c,d,e,rfl⟩:=dY h;obtain⟨o,b',F,Z,Y,rfl⟩:=dY k;kernel_rfl
theorem gZ(a b c d e:AV):b8 5 [a,b,c,d,e]=some (.agg [a,b,c,d,e]):=rfl
end
variable(ρ:Nat->Int)
section
def tyPzC.tyF:=ac @dF (ac @lq (ac @iT (ac @jD (ac @lw (ac @eV (ac @lA (ac @rP (ac @xA (ac @fE (ac @gV (ac @gy (ac @rN (ac @xz (ac @oT (@oU)))))))))))))))
open tyPzC
noncomputable def yy:{c:SC // aI 40 (f157.body.getD .skip)=c}:=by
 refine⟨?_,?_⟩;rotate_left
 .simp only[f157,bQ,aI,bL,bB,bV,bW,Nat.blt,Nat.ble];rfl
noncomputable def yz:{c:SC // aI 125 (f131.body.getD .skip)=c}:=by
 refine⟨?_,?_⟩;rotate_left
 .simp only[f131,bQ,aI,bL,bB,bV,bW,Nat.blt,Nat.ble];rfl
noncomputable def yA:{c:SC // aI 9 (f24.body.getD .skip)=c}:=by
 refine⟨?_,?_⟩;rotate_left
 .simp only[f24,bQ,aI,bL,bB,bV,bW,Nat.blt,Nat.ble];rfl
noncomputable def yB:{c:SC // aI 56 (f25.body.getD .skip)=c}:=by
 refine⟨?_,?_⟩;rotate_left
 .simp only[f25,bQ,aI,bL,bB,bV,bW,Nat.blt,Nat.ble];rfl
noncomputable def yC:{c:SC // aI 54 (f56.body.getD .skip)=c}:=by
 refine⟨?_,?_⟩;rotate_left
 .simp only[f56,bQ,aI,bL,bB,bV,bW,Nat.blt,Nat.ble];rfl
noncomputable def yD:{c:SC // aI 37 (f147.body.getD .skip)=c}:=by
 refine⟨?_,?_⟩;rotate_left
 .simp only[f147,bQ,aI,bL,bB,bV,bW,Nat.blt,Nat.ble];rfl
noncomputable def yE:{c:SC // aI 17 (f28.body.getD .skip)=c}:=by
 refine⟨?_,?_⟩;rotate_left
 .simp only[f28,bQ,aI,bL,bB,bV,bW,Nat.blt,Nat.ble];rfl
noncomputable def yF:{c:SC // aI 27 (f26.body.getD .skip)=c}:=by
 refine⟨?_,?_⟩;rotate_left
 .simp only[f26,bQ,aI,bL,bB,bV,bW,Nat.blt,Nat.ble];rfl
noncomputable def yG:{c:SC // aI 64 (f27.body.getD .skip)=c}:=by
 refine⟨?_,?_⟩;rotate_left
 .simp only[f27,bQ,aI,bL,bB,bV,bW,Nat.blt,Nat.ble];rfl
noncomputable def yH:{c:SC // aI 65 (f148.body.getD .skip)=c}:=by
 refine⟨?_,?_⟩;rotate_left
 .simp only[f148,bQ,aI,bL,bB,bV,bW,Nat.blt,Nat.ble];rfl
def r2(s:qi):Prop:=(gR s).isSome=true/\co s<9223372036854775808
def FF(s:qi)(V:r2 s):bN prog ρ 157 [.ad s] (.aC [.int .i64 (co s:Int),.bool true]):=kh fit (pls:=pls) (l:=[jH]) ⟨um ρ,trivial⟩ (.cons (.ad _) .nil) (.aC (.cons (.int _ _) (.cons (.bool _) .nil))) (by
 obtain⟨Y,J⟩:=V;obtain⟨W,I,o,A,F⟩:=uk Y;have m:zac (a1 pls [jH]) 157:=rZ (fun _=>rfl) rfl;have dp:∀H:Hp,aL prog (a1 pls [jH]) 54 [.ad s,.int .u64 9223372036854775807] H fun v H'=>v=.aC [.int .u64 (co s:Int),.bool true]/\H'=H:=fun H=>uo (tb:=[jH]) (most:=9223372036854775807) (fun _=>rfl) ⟨Y,by show co s<=9223372036854775807;omega,by show 9223372036854775807<2^64;decide⟩ H;have hs:¬(s=[]):=fun e=>by rw[e]at W;simp at W
 have S:s[0]?=some s[0]:=bq aa;have C:=o _ (jn (by omega:0<s.length));generalize s[0]=b at *;have O:¬((b.toNat:Int)=45):=aa;have ew:IntKind.wrap .i64 (co s:Int)=co s:=ui aa aa;refine bz (M:=40) (rs:=[.tmp 2,.tmp 3]) (m.call _) m.aB m.an func157 rfl rfl yy.2 rfl ?_;dsimp only[yy,ba,Nat.reduceAdd];repeat' (first
  |(apply ai ?_;clear hK K)|apply Ry.o ?_|(apply bu ?_;first|refine Rx.k (dp _) ?_)|(apply a6 (fun L U=>?_) (fun L U=>?_)<;>try(cases L;done))|(apply aE (fun C Z=>?_) (fun C Z=>?_)<;>try(cases C;done))|apply ag ?_|(apply ah fun K hK=>?_)|apply aq ?_)
 all_goals refine qq ?_
 all_goals trivial)
noncomputable def ux:En:=⟨157,false,fG r2 (fun s=>[.ad s]) fun s=>.aC [.int .i64 (co s:Int),.bool true]⟩
def FG:iW prog ρ ux:=kg fun x U=>FF ρ x U
structure OpX where
 k:Nat
 s:qi
def lI(x:OpX):qh:=[.int .i64 (x.k:Int),.ad x.s]
def FH(x y:OpX)(h:lI x=lI y):x=y:=by
 obtain⟨a,b⟩:=x;obtain⟨c,d⟩:=y;simp only[lI,nR,AV.ad.injEq,AV.int.injEq,df,k5]at h;obtain⟨h,rfl⟩:=h;rw[Int.ofNat.inj h]
def r3(x:OpX):AV:=.aC [.int .i64 (gT x.k x.s).1,.bool (gT x.k x.s).2]
theorem FI(x:OpX)(Y:x.k<=7):bN prog ρ 131 (lI x) (r3 x):=kh fit (pls:=pls) (l:=[]) trivial (.cons (.int _ _) (.cons (.ad _) .nil)) (.aC (.cons (.int _ _) (.cons (.bool _) .nil))) (by
 obtain⟨k,s⟩:=x;simp only[]at Y;have m:=mE 131;rw[lI,r3];simp only[];rcases(by omega:k=0\/k=1\/k=2\/k=3\/k=4\/k=5\/k=6\/k=7)with rfl|rfl|rfl|rfl|rfl|rfl|rfl|rfl;all_goals
  refine bz (M:=125) (rs:=[.tmp 4,.tmp 5]) (m.call _) m.aB m.an func131 rfl rfl yz.2 rfl ?_;dsimp only[yz,ba,Nat.reduceAdd];repeat' (first
   |(apply ai ?_;clear hK K)|apply Ry.o ?_|(apply a6 (fun L U=>?_) (fun L U=>?_)<;>try(cases L;done))|(apply aE (fun C Z=>?_) (fun C Z=>?_)<;>try(cases C;done))|apply ag ?_|(apply ah fun K hK=>?_)|apply au ?_|apply aj ?_|apply aq ?_)
  all_goals
   all_goals refine qq ?_
   simp_all[gT])
noncomputable def uy:En:=⟨131,false,fG (fun x:OpX=>x.k<=7) lI r3⟩
def FJ:iW prog ρ uy:=kg fun x U=>FI ρ x U
end
variable{s:qi}{k:Nat}
section
def tyPzD.tyF:=ac @dF (ac @lq (ac @iT (ac @jD (ac @lw (ac @eV (@lA))))))
open tyPzD
def uz(f:FuncId):Bool:=[24,25,56,147,28,26,27,148,149,130,102,59,100,58,101,29,10].any (Nat.beq f)
structure PzL (tb:qs):Prop where
 res:∀ar,fF tb 98 ar=uh.sp ar
 nu:∀ar,fF tb 54 ar=jH.sp ar
 pa:∀ar,fF tb 157 ar=ux.sp ar
 op:∀ar,fF tb 131 ar=uy.sp ar
 pl:∀f,uz f=true->(∀ar,fF tb f ar=none)/\rW tb f=false
def PzL.plain{l:qs}(h:PzL l){f:FuncId}(Z:uz f=true):zac (a1 pls l) f:=rZ (h.pl f Z).1 (h.pl f Z).2
def cM(l:qn)(i:Nat)(en:Int):qh:=[.af (l.map Tk.cells),.int .i64 (i:Int),.int .i64 en,.int .i64 0,.int .i64 0]
def FK(h:PzL tb)(s:qi)(H:Hp):aL prog (a1 pls tb) 98 [.ad s] H fun v H'=>v=.bool (lh s)/\H'=H:=iY (enc:=oO) (ok:=fun _=>True) (out:=fun s=>.bool (lh s)) Fg (x:=s) (h.res _) trivial
def FL(h:PzL tb)(U:r2 s)(H:Hp):aL prog (a1 pls tb) 157 [.ad s] H fun v H'=>v=.aC [.int .i64 (co s:Int),.bool true]/\H'=H:=iY (enc:=fun s:qi=>[.ad s]) (ok:=r2) (out:=fun s=>.aC [.int .i64 (co s:Int),.bool true]) (fun x y h=>eF) (x:=s) (h.pa _) U
def FM(h:PzL tb)(A:k<=7)(s:qi)(H:Hp):aL prog (a1 pls tb) 131 [.int .i64 (k:Int),.ad s] H fun v H'=>v=.aC [.int .i64 (gT k s).1,.bool (gT k s).2]/\H'=H:=iY (enc:=lI) (ok:=fun x=>x.k<=7) (out:=r3) FH (x:=⟨k,s⟩) (h.op _) A
def jI(o:PzL tb){en:Int}(C:H.get b=some (.cells (cM l i en) 0 true)):aL prog (a1 pls tb) 24 [.ptr b 0] H fun v H'=>v=.bool true/\H'=H:=by
 have m:zac (a1 pls tb) 24:=o.plain dH;unfold cM at C;refine bz (M:=9) (rs:=[.tmp 2]) (m.call _) m.aB m.an func24 rfl rfl yA.2 rfl ?_;dsimp only[yA,ba,Nat.reduceAdd];repeat' (first
  |(apply ai ?_;clear hK K)|apply Ry.o ?_|apply ag ?_|(apply ah fun K hK=>?_)|apply aq ?_)
 all_goals refine qq ?_
 exact⟨trivial,trivial⟩
theorem lJ{t:Tk}(h:l[j]?=some t):cV prog 72 (.af (l.map Tk.cells)) (.int .i64 (j:Int))=some (.aN t.cells):=by
 exact wN underlying72 rO (by rw[gp,h];rfl) rfl
theorem fI(o:PzL tb){en:Int}(C:H.get b=some (.cells (cM l i en) 0 true))(O:l.length<2^40)(I:i<2^41)(k:Nat)(A:k<2^10)(s:qi):aL prog (a1 pls tb) 25 [.ptr b 0,.int .i64 (k:Int),.ad s] H fun v H'=>v=.bool (a3 l i k s)/\H'=H:=by
 have Y:zac (a1 pls tb) 25:=o.plain dH;have V:=fun H' (h:H'=H)=>(by rw[h];exact jI o C:aL prog (a1 pls tb) 24 [.ptr b 0] H' fun v m=>v=.bool true/\m=H');unfold cM at C;have J:IntKind.wrap .i64 ((i:Int)+k)=((i+k:Nat):Int):=dl;unfold a3;refine bz (M:=56) (rs:=[.tmp 6]) (Y.call _) Y.aB Y.an func25 rfl rfl yB.2 rfl ?_;dsimp only[yB,ba,Nat.reduceAdd];by_cases W:i+k<l.length
 .have F:((i+k:Nat):Int)<l.length:=by omega
  have Z:l[i+k]?=some l[i+k]:=bq W;have S:=lJ Z;rw[Z];generalize l[i+k]=t at *;simp only[];repeat' (first
   |(apply ai ?_;clear hK K)|apply Ry.o ?_|(apply bu ?_;first|refine Rx.k (V _ rfl) ?_)|apply ag ?_|(apply ah fun K hK=>?_)|(apply ad 1 [(6,50),(12,50),(13,50),(20,50),(24,50),(29,50),(37,50),(41,50),(46,50)] fun K hK=>?_)|(apply aG ?_;try intro _)|(apply aH ?_ ?_<;>clear hK K)|apply aF ?_|(apply cW (fun L U=>?_) (fun L U=>?_)<;>try(cases L;done))|apply aq ?_)
  .exact cC
  .all_goals refine qq ?_
   simp_all
  .exact cC
  .all_goals refine qq ?_
   simp_all
 .have F:¬((i+k:Nat):Int)<l.length:=by omega
  rw[j6 aa];repeat' (first
   |(apply ai ?_;clear hK K)|apply Ry.o ?_|(apply bu ?_;first|refine Rx.k (V _ rfl) ?_)|apply ag ?_|(apply ah fun K hK=>?_)|(apply ad 1 [(6,50),(12,50),(13,50),(20,50),(24,50),(29,50),(37,50),(41,50),(46,50)] fun K hK=>?_)|(apply aG ?_;try intro _)|(apply aH ?_ ?_<;>clear hK K)|apply aF ?_|(apply cW (fun L U=>?_) (fun L U=>?_)<;>try(cases L;done))|apply aq ?_)
  .exact cC
  .all_goals refine qq ?_
   simp_all
theorem yI(o:PzL tb){en:Int}(C:H.get b=some (.cells (cM l i en) 0 true))(O:l.length<2^40)(I:i<2^41)(k:Nat)(A:k<2^10):aL prog (a1 pls tb) 56 [.ptr b 0,.int .i64 (k:Int)] H fun v H'=>v=.bool (gS l i k)/\H'=H:=by
 have Y:zac (a1 pls tb) 56:=o.plain dH;have V:=fun H' (h:H'=H)=>(by rw[h];exact jI o C:aL prog (a1 pls tb) 24 [.ptr b 0] H' fun v m=>v=.bool true/\m=H');unfold cM at C;have J:IntKind.wrap .i64 ((i:Int)+k)=((i+k:Nat):Int):=dl;unfold gS;refine bz (M:=54) (rs:=[.tmp 4]) (Y.call _) Y.aB Y.an func56 rfl rfl yC.2 rfl ?_;dsimp only[yC,ba,Nat.reduceAdd];by_cases W:i+k<l.length
 .have F:((i+k:Nat):Int)<l.length:=by omega
  have Z:l[i+k]?=some l[i+k]:=bq W;have S:=lJ Z;rw[Z];generalize l[i+k]=t at *;simp only[];repeat' (first
   |(apply ai ?_;clear hK K)|apply Ry.o ?_|(apply bu ?_;first|refine Rx.k (V _ rfl) ?_|refine Rx.k (FK o _ _) ?_)|apply ag ?_|(apply ah fun K hK=>?_)|(apply ad 1 [(6,46),(12,46),(13,46),(20,46),(24,46),(29,46),(36,46),(40,46),(45,46)] fun K hK=>?_)|(apply aG ?_;try intro _)|(apply aH ?_ ?_<;>clear hK K)|apply aF ?_|(apply cW (fun L U=>?_) (fun L U=>?_)<;>try(cases L;done))|apply aq ?_)
  .exact cC
  .all_goals refine qq ?_
   simp_all
  .exact cC
  .all_goals refine qq ?_
   simp_all
 .have F:¬((i+k:Nat):Int)<l.length:=by omega
  rw[j6 aa];repeat' (first
   |(apply ai ?_;clear hK K)|apply Ry.o ?_|(apply bu ?_;first|refine Rx.k (V _ rfl) ?_)|apply ag ?_|(apply ah fun K hK=>?_)|(apply ad 1 [(6,46),(12,46),(13,46),(20,46),(24,46),(29,46),(36,46),(40,46),(45,46)] fun K hK=>?_)|(apply aG ?_;try intro _)|(apply aH ?_ ?_<;>clear hK K)|apply aF ?_|(apply cW (fun L U=>?_) (fun L U=>?_)<;>try(cases L;done))|apply aq ?_)
  .exact cC
  .all_goals refine qq ?_
   simp_all
theorem FN(o:PzL tb){en:Int}(C:H.get b=some (.cells (cM l i en) 0 true))(O:l.length<2^40)(I:i<2^41)(k:Nat)(A:k<2^10):aL prog (a1 pls tb) 147 [.ptr b 0,.int .i64 (k:Int)] H fun v H'=>v=.bool (eT l (i+k) 2)/\H'=H:=by
 have Y:zac (a1 pls tb) 147:=o.plain dH;have V:=fun H' (h:H'=H)=>(by rw[h];exact jI o C:aL prog (a1 pls tb) 24 [.ptr b 0] H' fun v m=>v=.bool true/\m=H');unfold cM at C;have J:IntKind.wrap .i64 ((i:Int)+k)=((i+k:Nat):Int):=dl;unfold eT;refine bz (M:=37) (rs:=[.tmp 4]) (Y.call _) Y.aB Y.an func147 rfl rfl yD.2 rfl ?_;dsimp only[yD,ba,Nat.reduceAdd];by_cases W:i+k<l.length
 .have F:((i+k:Nat):Int)<l.length:=by omega
  have Z:l[i+k]?=some l[i+k]:=bq W;have S:=lJ Z;rw[Z];generalize l[i+k]=t at *;simp only[];repeat' (first
   |(apply ai ?_;clear hK K)|apply Ry.o ?_|(apply bu ?_;first|refine Rx.k (V _ rfl) ?_)|apply ag ?_|(apply ah fun K hK=>?_)|(apply ad 1 [(6,33),(12,33),(13,33),(20,33),(24,33),(29,33)] fun K hK=>?_)|(apply aG ?_;try intro _)|(apply aH ?_ ?_<;>clear hK K)|apply aF ?_|(apply cW (fun L U=>?_) (fun L U=>?_)<;>try(cases L;done))|apply aq ?_)
  .exact cC
  .all_goals refine qq ?_
   simp_all
 .have F:¬((i+k:Nat):Int)<l.length:=by omega
  rw[j6 aa];repeat' (first
   |(apply ai ?_;clear hK K)|apply Ry.o ?_|(apply bu ?_;first|refine Rx.k (V _ rfl) ?_)|apply ag ?_|(apply ah fun K hK=>?_)|(apply ad 1 [(6,33),(12,33),(13,33),(20,33),(24,33),(29,33)] fun K hK=>?_)|(apply aG ?_;try intro _)|(apply aH ?_ ?_<;>clear hK K)|apply aF ?_|(apply cW (fun L U=>?_) (fun L U=>?_)<;>try(cases L;done))|apply aq ?_)
  .exact cC
  .all_goals refine qq ?_
   simp_all
end
section
def tyPzE.tyF:=ac @dF (ac @eV (ac @iT (ac @jD (ac @lw (ac @lA (ac @rP (ac @xA (ac @fE (ac @gV (ac @gy (ac @oT (@oU))))))))))))
open tyPzE
structure PrP (l:qn) (en:Int) (b:Nat) (H:Hp) (j:Nat) (H':Hp):Prop where
 get:H'.get b=some (.cells (cM l j en) 0 true)
 next:H.next<=H'.next
 av:∀k,k<H.next->k≠b->H'.get k=H.get k
 le:j<=l.length
def i9(z:Nat)(l:qn)(en:Int)(b:Nat)(H:Hp)(C:qh)(j:Nat)(v:AV)(H':Hp):Prop:=(∃n cs,v=.agg cs/\cs.length=z/\cs.all AV.one=true/\bp (fun q=>H.next<=q) n H' cs C)/\PrP l en b H j H'
def PrP.set(l:qn)(en:Int)(b:Nat)(H:Hp)(j:Nat)(V:j<=l.length):PrP l en b H j (H.set b (.cells (cM l j en) 0 true)):=⟨eN,aA _,fun k _ A=>r1,V⟩
def lK(h:a3 l i k s=true):i+k<l.length:=by
 unfold a3 at h;split at h
 .rename_i t I;exact(ci.1 I).1
 .cases h
def FO(h:gS l i k=true):i+k<l.length:=by
 unfold gS at h;split at h
 .rename_i t I;exact(ci.1 I).1
 .cases h
def yJ{k:Int}(h:eT l i k=true):i<l.length:=by
 unfold eT at h;split at h
 .rename_i t I;exact(ci.1 I).1
 .cases h
def FP(h:bY l i s=some j):a3 l i 0 s=true/\j=i+1:=by
 unfold bY at h;split at h
 .rename_i c;exact⟨c,oL⟩
 .cases h
def FQ{r:qi×Nat}(h:fk l i=some r):gS l i 0=true/\r=(dR l i,i+1):=by
 unfold fk at h;split at h
 .rename_i c;exact⟨c,oL⟩
 .cases h
def dy(o:PzL tb){en:Int}(C:H.get b=some (.cells (cM l i en) 0 true))(O:l.length<2^40)(h:bY l i s=some j):aL prog (a1 pls tb) 28 [.ptr b 0,.ad s] H fun v H'=>PrP l en b H j H':=by
 obtain⟨Y,rfl⟩:=FP h;have V:=lK Y;have m:zac (a1 pls tb) 28:=o.plain dH;have W:aL prog (a1 pls tb) 25 [.ptr b 0,.int .i64 0,.ad s] H fun v H'=>v=.bool (a3 l i 0 s)/\H'=H:=fI o C O aa 0 bO s;rw[Y]at W;unfold cM at C;have U:IntKind.wrap .i64 ((i:Int)+1)=((i+1:Nat):Int):=dl;refine bz (M:=17) (rs:=[]) (m.call _) m.aB m.an func28 rfl rfl yE.2 rfl ?_;dsimp only[yE,ba,Nat.reduceAdd];repeat' (first
  |(apply ai ?_;clear hK K)|apply Ry.o ?_|apply aY ?_|(apply bu ?_;first|refine Rx.k (W) ?_)|(apply aE (fun C Z=>?_) (fun C Z=>?_)<;>try(cases C;done))|apply ag ?_|(apply ah fun K hK=>?_)|apply aj ?_)
 refine⟨aN,_,rV,?_⟩;try simp only[aM]
 exact PrP.set l en b H (i+1) aa
def lL(o:PzL tb){en:Int}(C:H.get b=some (.cells (cM l i en) 0 true))(O:l.length<2^40){r:qi×Nat}(h:fk l i=some r):aL prog (a1 pls tb) 26 [.ptr b 0] H fun v H'=>v=.ad r.1/\PrP l en b H r.2 H':=by
 obtain⟨W,rfl⟩:=FQ h;have U:=FO W;have m:zac (a1 pls tb) 26:=o.plain dH;have V:aL prog (a1 pls tb) 56 [.ptr b 0,.int .i64 0] H fun v H'=>v=.bool (gS l i 0)/\H'=H:=yI o C O aa 0 bO;rw[W]at V;unfold cM at C;have S:IntKind.wrap .i64 ((i:Int)+1)=((i+1:Nat):Int):=dl;have I:IntKind.wrap .i64 (((i+1:Nat):Int)-1)=(i:Int):=dl;have Z:l[i]?=some l[i]:=bq aa;have F:dR l i=l[i].text:=by unfold dR;rw[Z]
 have L:=lJ Z;simp only[F];generalize l[i]=t at *;refine bz (M:=27) (rs:=[.tmp 2]) (m.call _) m.aB m.an func26 rfl rfl yF.2 rfl ?_;dsimp only[yF,ba,Nat.reduceAdd];repeat' (first
  |(apply ai ?_;clear hK K)|apply Ry.o ?_|apply aY ?_|(apply bu ?_;first|refine Rx.k (V) ?_)|(apply aE (fun C Y=>?_) (fun C Y=>?_)<;>try(cases C;done))|apply ag ?_|(apply ah fun K hK=>?_)|(apply ad 5 [(3,13),(7,13),(11,13)] fun K hK=>?_)|(apply aG ?_;try intro _)|(apply aH ?_ ?_<;>clear hK K)|apply aF ?_|apply aj ?_|apply aq ?_)
 .exact cC
 .refine⟨aN,_,rV,?_⟩;try simp only[aM]
  exact⟨trivial,PrP.set l en b H (i+1) aa⟩
def FR(o:PzL tb){en:Int}(C:H.get b=some (.cells (cM l i en) 0 true))(hl:l.length<2^40){r:Int×Nat}(h:rG l i=some r):aL prog (a1 pls tb) 27 [.ptr b 0] H fun v H'=>v=.int .i64 r.1/\PrP l en b H r.2 H':=by
 unfold rG at h;split at h;rotate_left
 .cases h
 rename_i A;obtain⟨m,W,h⟩:=aX.1 h;split at h;rotate_left
 .cases h
 rename_i O;obtain rfl:((m:Int),i+1)=r:=eF;have J:=yJ A;have Z:l[i]?=some l[i]:=bq aa;have F:dR l i=l[i].text:=by unfold dR;rw[Z]
 have I:l[i].ai=2:=by unfold eT at A;rw[Z]at A;simpa using A
 have hix:=lJ Z;rw[F]at W;generalize l[i]=t at *;have hv:m=co t.text:=by
  unfold gR at W;split at W
  .simpa using W.symm
  .cases W
 have S:zac (a1 pls tb) 27:=o.plain dH;have ko:aL prog (a1 pls tb) 24 [.ptr b 0] H fun v Y=>v=.bool true/\Y=H:=jI o C;have dp:aL prog (a1 pls tb) 54 [.ad t.text,.int .u64 1000000] H fun v H'=>v=.aC [.int .u64 (co t.text:Int),.bool true]/\H'=H:=uo (most:=1000000) o.nu ⟨by rw[W];rfl,by show co t.text<=1000000;omega,by show 1000000<2^64;decide⟩ H;unfold cM at C;have ea:IntKind.wrap .i64 ((i:Int)+1)=((i+1:Nat):Int):=dl;have ew:IntKind.wrap .i64 (co t.text:Int)=(co t.text:Int):=ui aa aa;have hge:¬((l.length:Int)<=i):=aa;refine bz (M:=64) (rs:=[.tmp 2]) (S.call _) S.aB S.an func27 rfl rfl yG.2 rfl ?_;dsimp only[yG,ba,Nat.reduceAdd];repeat' (first
  |(apply ai ?_;clear hK K)|apply Ry.o ?_|apply aY ?_|(apply bu ?_;first|refine Rx.k (ko) ?_|refine Rx.k (dp) ?_)|(apply aE (fun C V=>?_) (fun C V=>?_)<;>try(cases C;done))|apply ag ?_|(apply ah fun K hK=>?_)|(apply ad 1 [(7,29),(11,29),(12,29),(19,29),(23,29),(26,29)] fun K hK=>?_)|(apply ad 4 [(3,11),(7,11),(10,11)] fun K hK=>?_)|(apply aG ?_;try intro _)|(apply aH ?_ ?_<;>clear hK K)|apply aF ?_|(apply cW (fun L U=>?_) (fun L U=>?_)<;>try(cases L;done))|apply aj ?_|apply aq ?_)
 .exact cC
 .exact cC
 .refine⟨aN,_,rV,?_⟩;try simp only[aM]
  exact⟨by rw[hv],PrP.set l en b H (i+1) aa⟩
def FT(n:Int):dA prog 59 [(0,.int .i64 1),(1,.int .i64 n)]=some (.agg [.int .i64 1,.int .i64 n,.ad [],.int .i64 0,.ab]):=az
def FU(o:PzL tb){en:Int}(C:H.get b=some (.cells (cM l i en) 0 true))(O:b<H.next)(hl:l.length<2^40)(A:eT l i 2=true){m:Nat}(W:gR (dR l i)=some m)(U:m<9223372036854775808):aL prog (a1 pls tb) 148 [.ptr b 0,.bool false] H (i9 5 l en b H (Ex.mk 1 m [] 0 []).cells (i+1)):=by
 have L:=yJ A;have Z:l[i]?=some l[i]:=bq aa;have F:dR l i=l[i].text:=by unfold dR;rw[Z]
 have J:=lJ Z;rw[F]at W;generalize l[i]=t at *;have I:m=co t.text:=by
  unfold gR at W;split at W
  .simpa using W.symm
  .cases W
 have V:zac (a1 pls tb) 148:=o.plain dH;have dp:∀H:Hp,aL prog (a1 pls tb) 157 [.ad t.text] H fun v H'=>v=.aC [.int .i64 (co t.text:Int),.bool true]/\H'=H:=fun H=>FL o ⟨by rw[W];rfl,aa⟩ H;unfold cM at C;have ea:IntKind.wrap .i64 ((i:Int)+1)=((i+1:Nat):Int):=dl;have n1:(b == H.next)=false:=bH aa;have n2:(H.next == b)=false:=bH aa;refine bz (M:=65) (rs:=[.cell 4 59]) (V.call _) V.aB V.an func148 rfl rfl yH.2 rfl ?_;dsimp only[yH,ba,Nat.reduceAdd];have gh0:=@FT;repeat' (first
  |(apply ai ?_;clear hK K)|apply Ry.o ?_|apply aY ?_|(apply bu ?_;first|refine Rx.k (dp _) ?_)|(apply aE (fun C Y=>?_) (fun C Y=>?_)<;>try(cases C;done))|apply ag ?_|(apply ah fun K hK=>?_)|(apply ad 1 [(3,11),(7,11),(10,11)] fun K hK=>?_)|(apply ad 3 [(3,12),(7,12),(10,12)] fun K hK=>?_)|(apply ad 4 [(3,12),(7,12),(10,12)] fun K hK=>?_)|(apply aG ?_;try intro _)|(apply aH ?_ ?_<;>clear hK K)|apply aF ?_|apply aj ?_|apply aq ?_)
 .exact cC
 .refine⟨aN,_,(by(try simp only[a2,bG,Nat.reduceBEq,Nat.reduceAdd,Nat.reduceLeDiff,tyF,cu,cG,gZ, *]);first|done|with_reducible rfl),?_⟩;try simp only[aM]
  refine⟨⟨2,_,rfl,rfl,rfl,?_⟩,⟨by rw[a0,aw aa,a0,aD rfl];rfl,?_,fun k h1 S=>?_,aa⟩⟩
  .rw[gP,I];exact .cons (.int _ _) (.cons (.int _ _) (.cons (.ad _) (.cons (.int _ _) (.cons .ab .nil))))
  .simp only[cH,cb];omega
  .rw[a0,aw aa,a0,aw S,aP,aw aa]
end
section
def tyPzF.tyF:=ac @fE (ac @dF (ac @eV (ac @iT (ac @gV (ac @gy (ac @jD (ac @lw (ac @lA (ac @gZ (ac @FC (ac @FB (ac @oT (ac @oU (@FD))))))))))))))
open tyPzF
noncomputable def yK:{c:SC // aI 48 (f149.body.getD .skip)=c}:=by
 refine⟨?_,?_⟩;rotate_left
 .simp only[f149,bQ,aI,bL,bB,bV,bW,Nat.blt,Nat.ble];rfl
noncomputable def yL:{c:SC // aI 64 (f130.body.getD .skip)=c}:=by
 refine⟨?_,?_⟩;rotate_left
 .simp only[f130,bQ,aI,bL,bB,bV,bW,Nat.blt,Nat.ble];rfl
noncomputable def yM:{c:SC // aI 83 (f102.body.getD .skip)=c}:=by
 refine⟨?_,?_⟩;rotate_left
 .simp only[f102,bQ,aI,bL,bB,bV,bW,Nat.blt,Nat.ble];rfl
noncomputable def yN:{c:SC // aI 30 (f59.body.getD .skip)=c}:=by
 refine⟨?_,?_⟩;rotate_left
 .simp only[f59,bQ,aI,bL,bB,bV,bW,Nat.blt,Nat.ble];rfl
structure zak (l:qn) (en:Int) (b i:Nat) (H:Hp):Prop where
 get:H.get b=some (.cells (cM l i en) 0 true)
 lt:b<H.next
def r4(l:qn)(n:Nat)(a:Ex)(i:Nat):Option (Ex×Nat):=
 if eT l i 2 then (gR (dR l i)).bind fun v=>if v<9223372036854775808 then some (.mk 1 v [] 0 [],i+1)else none
 else if a3 l i 0 [40]then (cL l n 3 0 a (i+1)).bind fun r=>(bY l r.2 [41]).map fun j=>(r.1,j)
 else (fk l i).bind fun s=>
  if a3 l s.2 0 [91]then (cL l n 3 0 a (s.2+1)).bind fun r=>(bY l r.2 [93]).map fun j=>(.mk 3 0 s.1 0 [r.1],j)
  else some (.mk 2 0 s.1 0 [],s.2)
theorem FV(l:qn)(n k:Nat)(a:Ex)(i:Nat):cL l (n+1) 2 k a i=if a3 l i 0 [45]||a3 l i 0 [126]||a3 l i 0 [33]then none else r4 l n a i:=by rw[cL];rfl
def i9.fin{en:Int}{H2 J:Hp}(O:cs.length=5)(m:cs.all AV.one=true)(Y:bp (fun q=>H.next<q) n H2 cs Z)(C:∀q,q≠H.next->J.get q=H2.get q)(V:H2.next<=J.next)(L:H2.get b=some (.cells (cM l j en) 0 true))(S:b<H.next)(M:H.next<=H2.next)(W:∀k,k<H.next->k≠b->H2.get k=H.get k)(U:j<=l.length):i9 5 l en b H Z j (.agg cs) J:=
 ⟨⟨n,cs,rfl,O,m,Y.ao (fun k _ h=>Nat.le_of_lt h) V fun k A _=>C k aa⟩,⟨(C b aa).trans L,aa,fun k m o=>(C k aa).trans (W k m o),U⟩⟩
def kj:=@i9.fin
theorem FW(l:qn)(n k:Nat)(a:Ex)(i:Nat):cL l (n+1) 1 k a i=if eT l i 3 then (if (gT k (dR l i)).1=0 then some (a,i)else (cL l n 0 (k+1) a (i+1)).bind fun r=>cL l n 1 k (.mk 4 0 [] (gT k (dR l i)).1 (if (gT k (dR l i)).2 then [r.1,a]else [a,r.1])) r.2)else some (a,i):=by rw[cL];rfl
theorem FX(l:qn)(n k:Nat)(a:Ex)(i:Nat):cL l (n+1) 0 k a i=if 7<k then cL l n 2 0 a i else (cL l n 0 (k+1) a i).bind fun r=>cL l n 1 k r.1 r.2:=by rw[cL];rfl
def yO{L M rs:Nat}{xs:qh}{x y:Ex}(o:Int)(m:bp S L H xs x.cells)(Y:bp S M H Z y.cells)(U:xs.length=5)(W:Z.length=5)(ax:S rs)(hr:rs<H.next)(V:H.get rs=some (.cells (xs++Z) 0 true)):bp S (max L M+2) H [.int .i64 4,.int .i64 0,.ad [],.int .i64 o,.sl rs 0 2 5] (Ex.mk 4 0 [] o [x,y]).cells:=by
 rw[gP];refine .cons (.int _ _) (.cons (.int _ _) (.cons (.ad _) (.cons (.int _ _) (.cons ?_ .nil))));exact bX.rows (n:=max L M+1) (a:=[xs,Z]) (b:=[x.cells,y.cells]) ax hr (by rw[V];simp only[l9,List.flatten_nil,jo];rfl) (eC _) ⟨⟨U,m.up aa⟩,⟨W,Y.up aa⟩,trivial⟩
def km(tb:qs)(l:qn)(en:Int)(b:Nat)(f:FuncId)(xs:qh)(i:Nat)(r:Ex×Nat):Prop:=∀H:Hp,zak l en b i H->aL prog (a1 pls tb) f (.ptr b 0::xs) H (i9 5 l en b H r.1.cells r.2)
abbrev qc:HB:=.cells [.int .i64 0,.int .i64 0,.ad [],.int .i64 0,.ab] 0 true
set_option maxRecDepth 100000 in
def FY(hG:PzL tb){en:Int}(hl:l.length<2^40){a:Ex}(ih:∀(i:Nat) (r:Ex×Nat),i<=l.length->cL l n 3 0 a i=some r->km tb l en b 59 [] i r)(hi:i<=l.length)(h:r4 l n a i=some r):km tb l en b 149 [] i r:=by
 intro H hP;have hw:zac (a1 pls tb) 149:=hG.plain dH;have hbn:=hP.lt;have n1:(b == H.next)=false:=bH aa;have n2:(H.next == b)=false:=bH aa;generalize hHa:H.alloc qc=W;have na:W.next=H.next+1:=by rw[<-hHa];rfl
 have oa:∀k,k+1<=H.next->W.get k=H.get k:=fun k A=>by rw[<-hHa,aP,aw aa]
 have ga:W.get H.next=some qc:=by rw[<-hHa,aP,aD rfl]
 have Y:W.get b=some (.cells (cM l i en) 0 true):=(oa b hbn).trans hP.get;have dp:aL prog (a1 pls tb) 147 [.ptr b 0,.int .i64 0] W fun v H'=>v=.bool (eT l i 2)/\H'=W:=FN hG Y hl aa 0 bO;have ka:∀s:qi,aL prog (a1 pls tb) 25 [.ptr b 0,.int .i64 0,.ad s] W fun v H'=>v=.bool (a3 l i 0 s)/\H'=W:=fun s=>fI hG Y hl aa 0 bO s;have hal:a3 l i 0 [40]=true->i+0<l.length:=lK;unfold r4 at h;refine bz (M:=48) (rs:=[.cell 2 59]) (hw.call _) hw.aB hw.an func149 rfl rfl yK.2 rfl ?_;dsimp only[yK,ba,Nat.reduceAdd];repeat' (first
  |(apply ai ?_;clear hK K)|apply Rx.o ?_|apply aU ?_|apply ag ?_|(apply ah fun K hK=>?_)|apply au ?_|apply aj ?_|apply aq ?_)
 rw[hHa];clear hHa;split at h
 .rename_i A;obtain⟨m,hm,h⟩:=aX.1 h;split at h;rotate_left
  .cases h
  rename_i hm2;obtain rfl:=io h;have kr:=FU hG Y aa hl A hm hm2;repeat' (first
   |(apply ai ?_;clear hK K)|apply Ry.o ?_|apply aY ?_|(apply bu ?_;first|refine Rx.k (dp) ?_)|(apply aE (fun C Z=>?_) (fun C Z=>?_)<;>try(cases C;done))|apply ag ?_|(apply ah fun K hK=>?_)|apply au ?_|apply aj ?_|apply aq ?_)
  refine qa ?_;refine aR ?_ kr;rintro v H2 ⟨⟨n3,cs,rfl,c1,c2,c3⟩,p⟩;have g2:=(p.av _ aa aa).trans ga;obtain⟨S,O,L,I,x4,rfl⟩:=dY c1;dsimp only[aJ];repeat' (first
   |(apply ai ?_;clear hK K)|apply Rx.o ?_|apply aU ?_|apply ag ?_|(apply ah fun K hK=>?_)|apply au ?_|apply aj ?_|apply aq ?_)
  refine⟨aN,_,(by(try simp only[a2,bG,Nat.reduceBEq,Nat.reduceAdd,Nat.reduceLeDiff,tyF,cu,cG,gZ, *]);first|done|with_reducible rfl),?_⟩;try simp only[aM]
  exact kj rfl c2 (c3.az (fun q h=>aa) (aA _) fun _ _ _=>rfl) (fun q hq=>mH) (aA _) p.get hbn (by have:=p.next;omega) (fun k V o=>(p.av k aa o).trans (oa k V)) p.le
 .rename_i A;have A:eT l i 2=false:=jY;split at h
  .rename_i h40;obtain⟨q,hq,h⟩:=aX.1 h;obtain⟨j,hj,rfl⟩:=dC.1 h;have hi1:i<l.length:=by have:=hal h40;omega
   clear hal;have ea:IntKind.wrap .i64 ((i:Int)+1)=((i+1:Nat):Int):=dl;have hbu:W.get b=some (.cells [.af (l.map Tk.cells),.int .i64 (i:Int),.int .i64 en,.int .i64 0,.int .i64 0] 0 true):=Y;clear Y;repeat' (first
    |(apply ai ?_;clear hK K)|apply Ry.o ?_|apply aY ?_|(apply bu ?_;first|refine Rx.k (dp) ?_|refine Rx.k (ka _) ?_)|(apply aE (fun C Z=>?_) (fun C Z=>?_)<;>try(cases C;done))|apply ag ?_|(apply ah fun K hK=>?_)|apply au ?_|apply aj ?_|apply aq ?_)
   refine qa ?_;refine aR ?_ (ih (i+1) q aa hq _ ⟨ut,oW⟩);rintro v H2 ⟨⟨n3,cs,rfl,c1,c2,c3⟩,p⟩;have hn2:W.next<=H2.next:=p.next
   have hs2:∀k,k<W.next->k≠b->H2.get k=W.get k:=fun k V o=>(p.av k V o).trans (by rw[a0,aw o])
   have g2:=(hs2 _ aa aa).trans ga;obtain⟨S,O,L,I,x4,rfl⟩:=dY c1;dsimp only[aJ];repeat' (first
    |(apply ai ?_;clear hK K)|apply Rx.o ?_|apply aU ?_|apply ag ?_|(apply ah fun K hK=>?_)|apply au ?_|apply aj ?_|apply aq ?_)
   generalize U:(H2.alloc qc).set H2.next (.cells [S,O,L,I,x4] 0 true)=Hc
   have nc:H2.next+1<=Hc.next:=by rw[<-U];exact aA _
   have gc:Hc.get H2.next=some (.cells [S,O,L,I,x4] 0 true):=by rw[<-U,a0,aD rfl]
   have oc:∀k,k<H2.next->Hc.get k=H2.get k:=fun k A=>yp
   clear U;refine qa ?_;refine aR ?_ (dy hG ((oc b aa).trans p.get) hl hj);rintro v H4 F;have hn4:Hc.next<=H4.next:=F.next
   have g4:H4.get H2.next=some (.cells [S,O,L,I,x4] 0 true):=(F.av _ aa aa).trans gc
   have g42:=((F.av H.next aa aa).trans (oc _ aa)).trans g2;have m1:(H2.next == H.next)=false:=bH aa;have m2:(H.next == H2.next)=false:=bH aa;dsimp only[aJ];repeat' (first
    |(apply ai ?_;clear hK K)|apply Rx.o ?_|apply aU ?_|apply ag ?_|(apply ah fun K hK=>?_)|apply au ?_|apply aj ?_|apply aq ?_)
   refine⟨aN,_,(by(try simp only[a2,bG,Nat.reduceBEq,Nat.reduceAdd,Nat.reduceLeDiff,tyF,cu,cG,gZ, *]);first|done|with_reducible rfl),?_⟩;try simp only[aM]
   exact kj rfl c2 (c3.ao (fun q _ h=>by simp only[cH]at h;omega) aa fun k hk1 hk2=>(F.av k aa (by simp only[cH]at hk1;omega)).trans (oc k aa)) (fun q hq=>mH) (aA _) F.get hbn aa (fun k V o=>((F.av k aa o).trans (oc k aa)).trans ((hs2 k aa o).trans (oa k V))) F.le
  .rename_i h40;have h40:a3 l i 0 [40]=false:=by simpa using h40
   obtain⟨q,hq,h⟩:=aX.1 h;repeat' (first
    |(apply ai ?_;clear hK K)|apply Ry.o ?_|apply aY ?_|(apply bu ?_;first|refine Rx.k (dp) ?_|refine Rx.k (ka _) ?_)|(apply aE (fun C Z=>?_) (fun C Z=>?_)<;>try(cases C;done))|apply ag ?_|(apply ah fun K hK=>?_)|apply au ?_|apply aj ?_|apply aq ?_)
   refine qa ?_;refine aR ?_ (lL hG Y hl hq);rintro v H2 ⟨rfl,p⟩;have hn2:W.next<=H2.next:=p.next
   have g2:=(p.av _ aa aa).trans ga;have hbu:H2.get b=some (.cells [.af (l.map Tk.cells),.int .i64 (q.2:Int),.int .i64 en,.int .i64 0,.int .i64 0] 0 true):=p.get;have hq2:=p.le;have ka2:aL prog (a1 pls tb) 25 [.ptr b 0,.int .i64 0,.ad [91]] H2 fun v H'=>v=.bool (a3 l q.2 0 [91])/\H'=H2:=fI hG p.get hl aa 0 bO [91];dsimp only[aJ];split at h
   .rename_i h91;have hi1:=lK h91;have ea:IntKind.wrap .i64 ((q.2:Int)+1)=((q.2+1:Nat):Int):=dl;obtain⟨u,hu,h⟩:=aX.1 h;obtain⟨j,hj,rfl⟩:=dC.1 h;repeat' (first
     |(apply ai ?_;clear hK K)|apply Ry.o ?_|apply aY ?_|(apply bu ?_;first|refine Rx.k (ka2) ?_)|(apply aE (fun C Z=>?_) (fun C Z=>?_)<;>try(cases C;done))|apply ag ?_|(apply ah fun K hK=>?_)|apply au ?_|apply aj ?_|apply aq ?_)
    refine qa ?_;refine aR ?_ (ih (q.2+1) u aa hu _ ⟨ut,oW⟩);rintro v J ⟨⟨n3,cs,rfl,c1,c2,c3⟩,p3⟩;have hn3:H2.next<=J.next:=p3.next
    have hs3:∀k,k<H2.next->k≠b->J.get k=H2.get k:=fun k V o=>(p3.av k V o).trans (by rw[a0,aw o])
    have g3:=(hs3 _ aa aa).trans g2;obtain⟨S,O,L,I,x4,rfl⟩:=dY c1;dsimp only[aJ];repeat' (first
     |(apply ai ?_;clear hK K)|apply Rx.o ?_|apply aU ?_|apply ag ?_|(apply ah fun K hK=>?_)|apply au ?_|apply aj ?_|apply aq ?_)
    generalize U:(J.alloc qc).set J.next (.cells [S,O,L,I,x4] 0 true)=Hc
    have nc:J.next+1<=Hc.next:=by rw[<-U];exact aA _
    have gc:Hc.get J.next=some (.cells [S,O,L,I,x4] 0 true):=by rw[<-U,a0,aD rfl]
    have oc:∀k,k<J.next->Hc.get k=J.get k:=fun k A=>yp
    clear U;refine qa ?_;refine aR ?_ (dy hG ((oc b aa).trans p3.get) hl hj);rintro v H4 F;have hn4:Hc.next<=H4.next:=F.next
    have g4:H4.get J.next=some (.cells [S,O,L,I,x4] 0 true):=(F.av _ aa aa).trans gc
    have g42:=((F.av H.next aa aa).trans (oc _ aa)).trans g3;have m1:(J.next == H.next)=false:=bH aa;have m2:(H.next == J.next)=false:=bH aa;have m3:(H4.next == H.next)=false:=bH aa;have m4:(H.next == H4.next)=false:=bH aa;have hb1:=fun H=>FE H (cs:=[S,O,L,I,x4]) rfl c2;dsimp only[aJ];repeat' (first
     |(apply ai ?_;clear hK K)|apply Rx.o ?_|apply aU ?_|apply ag ?_|(apply ah fun K hK=>?_)|apply au ?_|apply aj ?_|apply aq ?_)
    refine⟨aN,_,(by(try simp only[a2,bG,Nat.reduceBEq,Nat.reduceAdd,Nat.reduceLeDiff,tyF,cu,cG,gZ, *]);first|done|with_reducible rfl),?_⟩;try simp only[aM]
    refine kj (H2:=H4.alloc (.cells [S,O,L,I,x4] 0 true)) (n:=n3+2) rfl rfl ?_ (fun k A=>r1) (aA _) (by rw[aP,aw aa];exact F.get) hbn dW (fun k V o=>by rw[aP,aw aa];exact(((F.av k aa o).trans (oc k aa)).trans (hs3 k aa o)).trans ((p.av k aa o).trans (oa k V))) F.le;rw[gP];refine .cons (.int _ _) (.cons (.int _ _) (.cons (.ad _) (.cons (.int _ _) (.cons ?_ .nil))));exact bX.rows (n:=n3+1) (a:=[[S,O,L,I,x4]]) (b:=[u.1.cells]) aa dW (by rw[aP,aD rfl];rfl) (eC _) ⟨⟨rfl,(c3.ao (fun k _ h=>by simp only[cH]at h;omega) dW fun k hk1 hk2=>by simp only[cH]at hk1;rw[aP,aw aa];exact(F.av k aa aa).trans (oc k aa)).up aa⟩,trivial⟩
   .rename_i h91;have h91:a3 l q.2 0 [91]=false:=by simpa using h91
    obtain rfl:=io h;repeat' (first
     |(apply ai ?_;clear hK K)|apply Ry.o ?_|apply aY ?_|(apply bu ?_;first|refine Rx.k (ka2) ?_)|(apply aE (fun C Z=>?_) (fun C Z=>?_)<;>try(cases C;done))|apply ag ?_|(apply ah fun K hK=>?_)|apply au ?_|apply aj ?_|apply aq ?_)
    refine⟨aN,_,(by(try simp only[a2,bG,Nat.reduceBEq,Nat.reduceAdd,Nat.reduceLeDiff,tyF,cu,cG,gZ, *]);first|done|with_reducible rfl),?_⟩;try simp only[aM]
    refine kj (H2:=H2) (n:=2) rfl rfl ?_ (fun k A=>r1) (aA _) p.get hbn aa (fun k V o=>(p.av k aa o).trans (oa k V)) p.le;rw[gP];exact .cons (.int _ _) (.cons (.int _ _) (.cons (.ad _) (.cons (.int _ _) (.cons .ab .nil))))
set_option maxRecDepth 100000 in
theorem FZ(W:PzL tb){en:Int}(I:l.length<2^40){a:Ex}(hi:i<=l.length)(ih:r4 l n a i=some r->km tb l en b 149 [] i r)(h:cL l (n+1) 2 k a i=some r):km tb l en b 130 [] i r:=by
 intro H V;have m:zac (a1 pls tb) 130:=W.plain dH;have Z:=V.lt;rw[FV]at h;split at h
 .cases h
 rename_i A;have h45:a3 l i 0 [45]=false:=by
  cases e:a3 l i 0 [45]with
  |false=>rfl
  |true=>rw[e]at A;exact absurd rfl A
 have S:a3 l i 0 [126]=false:=by
  cases e:a3 l i 0 [126]with
  |false=>rfl
  |true=>rw[e,rY]at A;exact absurd rfl A
 have h33:a3 l i 0 [33]=false:=by
  cases e:a3 l i 0 [33]with
  |false=>rfl
  |true=>rw[e,rY]at A;exact absurd rfl A
 generalize O:H.alloc qc=F;have na:F.next=H.next+1:=by rw[<-O];rfl
 have J:∀k,k+1<=H.next->F.get k=H.get k:=fun k hk=>uw
 have ga:F.get H.next=some qc:=by rw[<-O,aP,aD rfl]
 have o:F.get b=some (.cells (cM l i en) 0 true):=(J b Z).trans V.get;have ka:∀s:qi,aL prog (a1 pls tb) 25 [.ptr b 0,.int .i64 0,.ad s] F fun v H'=>v=.bool (a3 l i 0 s)/\H'=F:=fun s=>fI W o I aa 0 bO s;clear A;refine bz (M:=64) (rs:=[.cell 2 59]) (m.call _) m.aB m.an func130 rfl rfl yL.2 rfl ?_;dsimp only[yL,ba,Nat.reduceAdd];repeat' (first
  |(apply ai ?_;clear hK K)|apply Rx.o ?_|apply aU ?_|apply ag ?_|(apply ah fun K hK=>?_)|apply au ?_|apply aj ?_|apply aq ?_)
 rw[O];clear O;repeat' (first
  |(apply ai ?_;clear hK K)|apply Ry.o ?_|(apply bu ?_;first|refine Rx.k (ka _) ?_)|(apply a6 (fun L U=>?_) (fun L U=>?_)<;>try(cases L;done))|(apply aE (fun C Y=>?_) (fun C Y=>?_)<;>try(cases C;done))|apply ag ?_|(apply ah fun K hK=>?_)|apply au ?_|apply aj ?_|apply aq ?_)
 refine qa ?_;refine aR ?_ (ih h _ ⟨o,aa⟩);rintro v H2 ⟨⟨n3,cs,rfl,c1,c2,c3⟩,p⟩;have hn2:F.next<=H2.next:=p.next
 have g2:=(p.av _ aa aa).trans ga;obtain⟨x0,x1,x2,x3,x4,rfl⟩:=dY c1;dsimp only[aJ];repeat' (first
  |(apply ai ?_;clear hK K)|apply Rx.o ?_|apply aU ?_|apply ag ?_|(apply ah fun K hK=>?_)|apply au ?_|apply aj ?_|apply aq ?_)
 refine⟨aN,_,(by(try simp only[a2,bG,Nat.reduceBEq,Nat.reduceAdd,Nat.reduceLeDiff,tyF,cu,cG,gZ, *]);first|done|with_reducible rfl),?_⟩;try simp only[aM]
 exact kj rfl c2 (c3.az (fun q h=>aa) (aA _) fun _ _ _=>rfl) (fun q hq=>mH) (aA _) p.get Z aa (fun k h1 h2=>(p.av k aa h2).trans (J k h1)) p.le
set_option maxRecDepth 100000 in
theorem uA{tb:qs}(hG:PzL tb){l:qn}{en:Int}{b:Nat}(hl:l.length<2^40):∀(N n:Nat),n<N->∀(m k:Nat) (a:Ex) (i:Nat) (r:Ex×Nat),i<=l.length->cL l n m k a i=some r ->
 (m=2->km tb l en b 130 [] i r)/\(m=3->km tb l en b 59 [] i r)/\(m=0->k<=8->km tb l en b 102 [.int .i64 (k:Int)] i r)
 |0,n,hn,_,_,_,_,_,_,_=>by omega
 |N+1,0,hn,m,k,a,i,r,hi,h=>by rw[cL]at h;cases h
 |N+1,n+1,hn,m,k,a,i,r,hi,h=>by
  have IH:=fun m k a i r hi h=>uA (en:=en) (b:=b) hG hl N n aa m k a i r hi h;refine⟨fun hm=>?_,fun hm=>?_,fun hm hk=>?_⟩
  .subst hm;exact FZ hG hl hi (FY hG hl (fun i r hi h=>(IH 3 0 a i r hi h).2.1 rfl) hi) h
  .subst hm;have h3:(cL l n 0 0 a i).bind (fun r=>if a3 l r.2 0 [63]then none else some r)=some r:=by rw[cL]at h;exact h
   obtain⟨q,hq,h⟩:=aX.1 h3;split at h
   .cases h
   rename_i h63;have h63:a3 l q.2 0 [63]=false:=by simpa using h63
   obtain rfl:=io h;have A:=(IH 0 0 a i q hi hq).2.2 rfl aa;clear IH h3;intro H hP;have hw:zac (a1 pls tb) 59:=hG.plain dH;have hbn:=hP.lt;generalize O:H.alloc qc=Ha;have na:Ha.next=H.next+1:=by rw[<-O];rfl
   have oa:∀k,k+1<=H.next->Ha.get k=H.get k:=fun k hk=>uw
   have ga:Ha.get H.next=some qc:=by rw[<-O,aP,aD rfl]
   have hba:Ha.get b=some (.cells (cM l i en) 0 true):=(oa b hbn).trans hP.get;refine bz (M:=30) (rs:=[.cell 2 59]) (hw.call _) hw.aB hw.an func59 rfl rfl yN.2 rfl ?_;dsimp only[yN,ba,Nat.reduceAdd];repeat' (first
    |(apply ai ?_;clear hK K)|apply Rx.o ?_|apply aU ?_|apply ag ?_|(apply ah fun K hK=>?_)|apply aj ?_|apply aq ?_)
   rw[O];clear O;refine qa ?_;refine aR ?_ (A _ ⟨hba,aa⟩);rintro v V ⟨⟨n3,cs,rfl,c1,c2,c3⟩,p⟩;have hn2:Ha.next<=V.next:=p.next
   have g2:=(p.av _ aa aa).trans ga;have hple:=p.le;obtain⟨x0,x1,x2,x3,x4,rfl⟩:=dY c1;dsimp only[aJ];repeat' (first
    |(apply ai ?_;clear hK K)|apply Rx.o ?_|apply aU ?_|apply ag ?_|(apply ah fun K hK=>?_)|apply aj ?_|apply aq ?_)
   generalize F:(V.alloc qc).set V.next (.cells [x0,x1,x2,x3,x4] 0 true)=Hc
   have nc:V.next+1<=Hc.next:=by rw[<-F];exact aA _
   have gc:Hc.get V.next=some (.cells [x0,x1,x2,x3,x4] 0 true):=by rw[<-F,a0,aD rfl]
   have oc:∀k,k+1<=V.next->Hc.get k=V.get k:=fun k hk=>yq
   clear F;have hbc:=(oc b aa).trans p.get;have gc2:=(oc H.next aa).trans g2;have ka:aL prog (a1 pls tb) 25 [.ptr b 0,.int .i64 0,.ad [63]] Hc fun v H'=>v=.bool (a3 l q.2 0 [63])/\H'=Hc:=fI hG hbc hl aa 0 bO [63];have m1:(V.next == H.next)=false:=bH aa;have m2:(H.next == V.next)=false:=bH aa;repeat' (first
    |(apply ai ?_;clear hK K)|apply Ry.o ?_|apply aY ?_|(apply bu ?_;first|refine Rx.k (ka) ?_)|(apply aE (fun C Z=>?_) (fun C Z=>?_)<;>try(cases C;done))|apply ag ?_|(apply ah fun K hK=>?_)|apply aj ?_|apply aq ?_)
   refine⟨aN,_,(by(try simp only[a2,bG,Nat.reduceBEq,Nat.reduceAdd,Nat.reduceLeDiff,tyF,cu,cG,gZ, *]);first|done|with_reducible rfl),?_⟩;try simp only[aM]
   exact kj rfl c2 (c3.ao (fun q _ h=>aa) aa fun k hk1 hk2=>oc k hk2) (fun q hq=>mH) (aA _) hbc hbn aa (fun k W Y=>(oc k aa).trans ((p.av k aa Y).trans (oa k W))) p.le
  .subst hm;intro H hP;have hw:zac (a1 pls tb) 102:=hG.plain dH;have hbn:=hP.lt;generalize O:H.alloc qc=Ha;have na:Ha.next=H.next+1:=by rw[<-O];rfl
   have oa:∀k,k+1<=H.next->Ha.get k=H.get k:=fun k hk=>uw
   have ga:Ha.get H.next=some qc:=by rw[<-O,aP,aD rfl]
   have hba:Ha.get b=some (.cells (cM l i en) 0 true):=(oa b hbn).trans hP.get;rw[FX]at h;refine bz (M:=83) (rs:=[.cell 4 59]) (hw.call _) hw.aB hw.an func102 rfl rfl yM.2 rfl ?_;dsimp only[yM,ba,Nat.reduceAdd];by_cases hk7:7<k
   .rw[aD hk7]at h;have hk7':(7:Int)<(k:Int):=aa;have ihu:=(IH 2 0 a i r hi h).1 rfl;repeat' (first
     |(apply ai ?_;clear hK K)|apply Ry.o ?_|apply aY ?_|(apply aE (fun C Z=>?_) (fun C Z=>?_)<;>try(cases C;done))|apply ag ?_|(apply ah fun K hK=>?_)|(apply ad 4 [(6,28),(10,28),(11,28),(18,28),(22,28),(25,28)] fun K hK=>?_)|(apply ad 5 [(4,12),(8,12),(11,12)] fun K hK=>?_)|(apply aG ?_;try intro _)|(apply aH ?_ ?_<;>clear hK K)|apply aF ?_|(apply cW (fun L U=>?_) (fun L U=>?_)<;>try(cases L;done))|apply au ?_|apply aj ?_|apply aq ?_|apply aB ?_)
    rw[O];clear O;refine qa ?_;refine aR ?_ (ihu _ ⟨hba,aa⟩);rintro v V ⟨⟨n3,cs,rfl,c1,c2,c3⟩,p⟩;have hn2:Ha.next<=V.next:=p.next
    have g2:=(p.av _ aa aa).trans ga;obtain⟨x0,x1,x2,x3,x4,rfl⟩:=dY c1;dsimp only[aJ];repeat' (first
     |(apply ai ?_;clear hK K)|apply Rx.o ?_|apply aU ?_|apply ag ?_|(apply ah fun K hK=>?_)|(apply ad 4 [(6,28),(10,28),(11,28),(18,28),(22,28),(25,28)] fun K hK=>?_)|(apply ad 5 [(4,12),(8,12),(11,12)] fun K hK=>?_)|(apply aG ?_;try intro _)|(apply aH ?_ ?_<;>clear hK K)|apply aF ?_|apply au ?_|apply aj ?_|apply aq ?_|apply aB ?_)
    refine⟨aN,_,(by(try simp only[a2,bG,Nat.reduceBEq,Nat.reduceAdd,Nat.reduceLeDiff,tyF,cu,cG,gZ, *]);first|done|with_reducible rfl),?_⟩;try simp only[aM]
    exact kj rfl c2 (c3.az (fun q h=>aa) (aA _) fun _ _ _=>rfl) (fun q hq=>mH) (aA _) p.get hbn aa (fun k W Y=>(p.av k aa Y).trans (oa k W)) p.le
   .rw[aw hk7]at h;have hk7':¬(7:Int)<(k:Int):=aa;obtain⟨q,hq,h⟩:=aX.1 h;have A:=(IH 0 (k+1) a i q hi hq).2.2 rfl aa;have ek:IntKind.wrap .i64 ((k:Int)+1)=((k+1:Nat):Int):=dl;repeat' (first
     |(apply ai ?_;clear hK K)|apply Ry.o ?_|apply aY ?_|(apply aE (fun C Z=>?_) (fun C Z=>?_)<;>try(cases C;done))|apply ag ?_|(apply ah fun K hK=>?_)|(apply ad 4 [(6,28),(10,28),(11,28),(18,28),(22,28),(25,28)] fun K hK=>?_)|(apply ad 5 [(4,12),(8,12),(11,12)] fun K hK=>?_)|(apply aG ?_;try intro _)|(apply aH ?_ ?_<;>clear hK K)|apply aF ?_|(apply cW (fun L U=>?_) (fun L U=>?_)<;>try(cases L;done))|apply au ?_|apply aj ?_|apply aq ?_|apply aB ?_)
    rw[O];clear O;refine qa ?_;refine aR ?_ (A _ ⟨hba,aa⟩);clear A;rintro v V ⟨⟨n3,cs,rfl,c1,c2,c3⟩,p⟩;have hn2:Ha.next<=V.next:=p.next
    have g2:=(p.av _ aa aa).trans ga;have hple:=p.le;obtain⟨x0,x1,x2,x3,x4,rfl⟩:=dY c1;dsimp only[aJ];repeat' (first
     |(apply ai ?_;clear hK K)|apply Rx.o ?_|apply aU ?_|apply ag ?_|(apply ah fun K hK=>?_)|(apply ad 4 [(6,28),(10,28),(11,28),(18,28),(22,28),(25,28)] fun K hK=>?_)|(apply ad 5 [(4,12),(8,12),(11,12)] fun K hK=>?_)|(apply aG ?_;try intro _)|(apply aH ?_ ?_<;>clear hK K)|apply aF ?_|apply au ?_|apply aj ?_|apply aq ?_|apply aB ?_)
    generalize F:(V.alloc qc).set V.next (.cells [x0,x1,x2,x3,x4] 0 true)=Hc
    have nc:V.next+1<=Hc.next:=by rw[<-F];exact aA _
    have gc:Hc.get V.next=some (.cells [x0,x1,x2,x3,x4] 0 true):=by rw[<-F,a0,aD rfl]
    have oc:∀k,k+1<=V.next->Hc.get k=V.get k:=fun k hk=>yq
    clear F;have hbc:=(oc b aa).trans p.get;have gc2:=(oc H.next aa).trans g2;refine lC [0,1,4,5] [] (fun nn E H3=>∃(a':Ex) (I n3:Nat) (cs:qh),nn<=n/\cL l nn 1 k a' I=some r/\I<=l.length/\H3.get b=some (.cells (cM l I en) 0 true)/\H3.get V.next=some (.cells cs 0 true)/\cs.length=5/\cs.all AV.one=true/\bp (fun q=>H.next<q/\q≠V.next) n3 H3 cs a'.cells/\H3.get H.next=some qc/\∀q,q<H.next->q≠b->H3.get q=H.get q) n ⟨q.1,q.2,n3,[x0,x1,x2,x3,x4],aA _,h,hple,hbc,gc,rfl,c2,c3.ao (fun q W Y=>⟨aa,aa⟩) aa (fun k _ hk=>oc k hk),gc2,fun k W Y=>(oc k aa).trans ((p.av k aa Y).trans (oa k W))⟩ ?_;clear gc gc2 hbc c3 c2 h p g2 ga hba oa oc hq hple;rintro nn E3 H3 hcE hrH hnH ⟨a',I,n4,ds,hnn,h,hi',hb3,g3,d1,d2,d3,gz,o3⟩;(try simp only[em,ep,df,a2,bG,Nat.reduceBEq,Nat.reduceAdd,Nat.reduceLeDiff,tyF, *]at hcE);have hn3:V.next+1<=H3.next:=aa
    clear hrH nc;cases nn with
    |zero=>rw[cL]at h;cases h
    |succ nn=>
    rw[FW]at h;have ko:=jI hG hb3;have hbu:H3.get b=some (.cells [.af (l.map Tk.cells),.int .i64 (I:Int),.int .i64 en,.int .i64 0,.int .i64 0] 0 true):=hb3;obtain⟨y0,y1,y2,y3,y4,rfl⟩:=dY d1;have m1:(V.next == H.next)=false:=bH aa;have m2:(H.next == V.next)=false:=bH aa;have fin:r=(a',I)->i9 5 l en b H r.1.cells r.2 (.agg [y0,y1,y2,y3,y4]) (H3.set H.next (.cells [y0,y1,y2,y3,y4] 0 true)):=fun e=>by
     subst e;exact kj rfl d2 (d3.az (fun q h=>h.1) (aA _) fun _ _ _=>rfl) (fun q hq=>mH) (aA _) hb3 hbn aa o3 hi'
    clear hb3;by_cases hlt:I<l.length
    .have hlt':(I:Int)<l.length:=by omega
     have hgx:l[I]?=some l[I]:=bq hlt;have hix:=lJ hgx;have htx:dR l I=l[I].text:=by unfold dR;rw[hgx]
     have hkd:eT l I 3=decide (l[I].ai=3):=by unfold eT;rw[hgx]
     rw[hkd,htx]at h;clear hkd htx hgx;generalize l[I]=t at *;by_cases h3:t.ai=3
     .rw[aD (by rw[h3];rfl)]at h;have kp:=FM hG (k:=k) aa t.text H3;generalize gT k t.text=o at *;obtain⟨o1,o2⟩:=o;simp only[]at h kp;by_cases h0:o1=0
      .rw[aD h0]at h;have e:=(io h).symm;repeat' (first
        |(apply ai ?_;clear hK K)|apply Ry.o ?_|apply aY ?_|(apply bu ?_;first|refine Rx.k (ko) ?_|refine Rx.k (kp) ?_)|(apply aE (fun C Z=>?_) (fun C Z=>?_)<;>try(cases C;done))|apply ag ?_|(apply ah fun K hK=>?_)|(apply ad 4 [(6,28),(10,28),(11,28),(18,28),(22,28),(25,28)] fun K hK=>?_)|(apply ad 5 [(4,12),(8,12),(11,12)] fun K hK=>?_)|(apply aG ?_;try intro _)|(apply aH ?_ ?_<;>clear hK K)|apply aF ?_|(apply cW (fun L U=>?_) (fun L U=>?_)<;>try(cases L;done))|apply au ?_|apply aj ?_|apply aq ?_|apply aB ?_)
       .exact cC
       .exact cC
       .refine⟨aN,_,(by(try simp only[a2,bG,Nat.reduceBEq,Nat.reduceAdd,Nat.reduceLeDiff,tyF,cu,cG,gZ, *]);first|done|with_reducible rfl),?_⟩;try simp only[aM]
        exact fin e
      .rw[aw h0]at h;obtain⟨u,hu,h⟩:=aX.1 h;have A:=(uA (en:=en) (b:=b) hG hl N nn aa 0 (k+1) a' (I+1) u aa hu).2.2 rfl aa;have ea:IntKind.wrap .i64 ((I:Int)+1)=((I+1:Nat):Int):=dl;repeat' (first
        |(apply ai ?_;clear hK K)|apply Ry.o ?_|apply aY ?_|(apply bu ?_;first|refine Rx.k (ko) ?_|refine Rx.k (kp) ?_)|(apply aE (fun C Z=>?_) (fun C Z=>?_)<;>try(cases C;done))|apply ag ?_|(apply ah fun K hK=>?_)|(apply ad 4 [(6,28),(10,28),(11,28),(18,28),(22,28),(25,28)] fun K hK=>?_)|(apply ad 5 [(4,12),(8,12),(11,12)] fun K hK=>?_)|(apply aG ?_;try intro _)|(apply aH ?_ ?_<;>clear hK K)|apply aF ?_|(apply cW (fun L U=>?_) (fun L U=>?_)<;>try(cases L;done))|apply au ?_|apply aj ?_|apply aq ?_|apply aB ?_)
       .exact cC
       .exact cC
       .refine qa ?_;refine aR ?_ (A _ ⟨ut,oW⟩);clear A fin;rintro v S ⟨⟨n5,es,rfl,c1,c2,c3⟩,p⟩;have hn4:H3.next<=S.next:=p.next
        have hs4:∀q,q<H3.next->q≠b->S.get q=H3.get q:=fun q W Y=>(p.av q W Y).trans (by rw[a0,aw Y])
        have g4:=(hs4 V.next aa aa).trans g3;have gz4:=(hs4 H.next aa aa).trans gz;obtain⟨x0,x1,x2,x3,x4,rfl⟩:=dY c1;have m3:(S.next == V.next)=false:=bH aa;have m4:(V.next == S.next)=false:=bH aa;have m5:(S.next == H.next)=false:=bH aa;have m6:(H.next == S.next)=false:=bH aa;have m7:(V.next == S.next+1)=false:=bH aa;have m8:(S.next+1 == V.next)=false:=bH aa;have m9:(S.next == S.next+1)=false:=bH aa;have ma:(S.next+1 == S.next)=false:=bH aa;have hb1:=fun H=>yx H (cs:=[y0,y1,y2,y3,y4]) (ds:=[x0,x1,x2,x3,x4]) rfl rfl;have hb2:=fun H=>yx H (cs:=[x0,x1,x2,x3,x4]) (ds:=[y0,y1,y2,y3,y4]) rfl rfl;dsimp only[aJ];cases o2
        .rw[aw bO]at h;repeat' (first
          |(apply ai ?_;clear hK K)|apply Ry.o ?_|apply aY ?_|(apply aE (fun C Z=>?_) (fun C Z=>?_)<;>try(cases C;done))|apply ag ?_|(apply ah fun K hK=>?_)|(apply ad 4 [(6,28),(10,28),(11,28),(18,28),(22,28),(25,28)] fun K hK=>?_)|(apply ad 5 [(4,12),(8,12),(11,12)] fun K hK=>?_)|(apply aG ?_;try intro _)|(apply aH ?_ ?_<;>clear hK K)|apply aF ?_|(apply cW (fun L U=>?_) (fun L U=>?_)<;>try(cases L;done))|apply au ?_|apply aj ?_|apply aq ?_|apply aB ?_)
         generalize J:Hp.set _ V.next (.cells [.int .i64 4,.int .i64 0,.ad [],.int .i64 o1,.sl (S.next+1) 0 2 5] 0 true)=Hf
         have fo:∀q,q<S.next->q≠V.next->Hf.get q=S.get q:=fun q W Y=>yr
         have fs:Hf.get (S.next+1)=some (.cells ([y0,y1,y2,y3,y4]++[x0,x1,x2,x3,x4]) 0 true):=yu;have fr:Hf.get V.next=some (.cells [.int .i64 4,.int .i64 0,.ad [],.int .i64 o1,.sl (S.next+1) 0 2 5] 0 true):=oM
         have fn:S.next+2<=Hf.next:=by rw[<-J];simp only[cH,cb];omega
         clear J;have c3K:bp (fun q=>H.next<q/\q≠V.next) n5 Hf [x0,x1,x2,x3,x4] u.1.cells:=c3.ao (fun q W Y=>by simp only[cH]at Y;omega) aa fun q W Y=>fo q Y (by simp only[cH]at W;omega);have d3K:bp (fun q=>H.next<q/\q≠V.next) n4 Hf [y0,y1,y2,y3,y4] a'.cells:=d3.ao (fun q W Y=>Y) aa fun q W Y=>(fo q aa W.2).trans (hs4 q Y aa);exact⟨cj,cj,aa,nn,eI _,Ex.mk 4 0 [] o1 [a',u.1],u.2,_,_,aa,h,p.le,(fo b aa aa).trans p.get,fr,rfl,rfl,yO o1 d3K c3K rfl rfl ⟨aa,aa⟩ aa fs,(fo H.next aa aa).trans gz4,fun q W Y=>(fo q aa aa).trans ((hs4 q aa Y).trans (o3 q W Y))⟩
        .rw[aD rfl]at h;repeat' (first
          |(apply ai ?_;clear hK K)|apply Ry.o ?_|apply aY ?_|(apply aE (fun C Z=>?_) (fun C Z=>?_)<;>try(cases C;done))|apply ag ?_|(apply ah fun K hK=>?_)|(apply ad 4 [(6,28),(10,28),(11,28),(18,28),(22,28),(25,28)] fun K hK=>?_)|(apply ad 5 [(4,12),(8,12),(11,12)] fun K hK=>?_)|(apply aG ?_;try intro _)|(apply aH ?_ ?_<;>clear hK K)|apply aF ?_|(apply cW (fun L U=>?_) (fun L U=>?_)<;>try(cases L;done))|apply au ?_|apply aj ?_|apply aq ?_|apply aB ?_)
         generalize J:Hp.set _ V.next (.cells [.int .i64 4,.int .i64 0,.ad [],.int .i64 o1,.sl (S.next+1) 0 2 5] 0 true)=Hf
         have fo:∀q,q<S.next->q≠V.next->Hf.get q=S.get q:=fun q W Y=>yr
         have fs:Hf.get (S.next+1)=some (.cells ([x0,x1,x2,x3,x4]++[y0,y1,y2,y3,y4]) 0 true):=yu;have fr:Hf.get V.next=some (.cells [.int .i64 4,.int .i64 0,.ad [],.int .i64 o1,.sl (S.next+1) 0 2 5] 0 true):=oM
         have fn:S.next+2<=Hf.next:=by rw[<-J];simp only[cH,cb];omega
         clear J;have c3K:bp (fun q=>H.next<q/\q≠V.next) n5 Hf [x0,x1,x2,x3,x4] u.1.cells:=c3.ao (fun q W Y=>by simp only[cH]at Y;omega) aa fun q W Y=>fo q Y (by simp only[cH]at W;omega);have d3K:bp (fun q=>H.next<q/\q≠V.next) n4 Hf [y0,y1,y2,y3,y4] a'.cells:=d3.ao (fun q W Y=>Y) aa fun q W Y=>(fo q aa W.2).trans (hs4 q Y aa);exact⟨cj,cj,aa,nn,eI _,Ex.mk 4 0 [] o1 [u.1,a'],u.2,_,_,aa,h,p.le,(fo b aa aa).trans p.get,fr,rfl,rfl,yO o1 c3K d3K rfl rfl ⟨aa,aa⟩ aa fs,(fo H.next aa aa).trans gz4,fun q W Y=>(fo q aa aa).trans ((hs4 q aa Y).trans (o3 q W Y))⟩
     .rw[aw (by simpa using h3)]at h;have e:=(io h).symm;repeat' (first
       |(apply ai ?_;clear hK K)|apply Ry.o ?_|apply aY ?_|(apply bu ?_;first|refine Rx.k (ko) ?_)|(apply aE (fun C Z=>?_) (fun C Z=>?_)<;>try(cases C;done))|apply ag ?_|(apply ah fun K hK=>?_)|(apply ad 4 [(6,28),(10,28),(11,28),(18,28),(22,28),(25,28)] fun K hK=>?_)|(apply ad 5 [(4,12),(8,12),(11,12)] fun K hK=>?_)|(apply aG ?_;try intro _)|(apply aH ?_ ?_<;>clear hK K)|apply aF ?_|(apply cW (fun L U=>?_) (fun L U=>?_)<;>try(cases L;done))|apply au ?_|apply aj ?_|apply aq ?_|apply aB ?_)
      .exact cC
      .refine⟨aN,_,(by(try simp only[a2,bG,Nat.reduceBEq,Nat.reduceAdd,Nat.reduceLeDiff,tyF,cu,cG,gZ, *]);first|done|with_reducible rfl),?_⟩;try simp only[aM]
       exact fin e
    .have hlt':¬(I:Int)<l.length:=by omega
     have hkd:eT l I 3=false:=by unfold eT;rw[j6 aa]
     rw[hkd]at h;have e:=(io h).symm;repeat' (first
      |(apply ai ?_;clear hK K)|apply Ry.o ?_|apply aY ?_|(apply bu ?_;first|refine Rx.k (ko) ?_)|(apply aE (fun C Z=>?_) (fun C Z=>?_)<;>try(cases C;done))|apply ag ?_|(apply ah fun K hK=>?_)|(apply ad 4 [(6,28),(10,28),(11,28),(18,28),(22,28),(25,28)] fun K hK=>?_)|(apply ad 5 [(4,12),(8,12),(11,12)] fun K hK=>?_)|(apply aG ?_;try intro _)|(apply aH ?_ ?_<;>clear hK K)|apply aF ?_|(apply cW (fun L U=>?_) (fun L U=>?_)<;>try(cases L;done))|apply au ?_|apply aj ?_|apply aq ?_|apply aB ?_)
     .exact cC
     .refine⟨aN,_,(by(try simp only[a2,bG,Nat.reduceBEq,Nat.reduceAdd,Nat.reduceLeDiff,tyF,cu,cG,gZ, *]);first|done|with_reducible rfl),?_⟩;try simp only[aM]
      exact fin e
end
section
def tyG4.tyF:=ac @dF (ac @xe (ac @jC (ac @xu (ac @lB (ac @eV (ac @gV (ac @gy (@lr))))))))
open tyG4
def F0:Ex:=.mk 0 0 [] 0 []
def ja(k:Int)(nm A:qi)(n:Int)(a v:qh)(o M O:AV):qh:=[.int .i64 k,.ad nm,.ad A,.int .i64 n]++a++v++[o,M,O]
def oX(k:Int)(nm A:qi)(m:Int){F I:Ex}{al:List Ex}{ts es:qw}(Z:bp S (n+1) H a F.cells)(Y:bp S (n+1) H v I.cells)(W:bX S (n+1) H o (.af (al.map Ex.cells)))(V:bX S (n+1) H M (.af (ts.map St.cells)))(U:bX S (n+1) H O (.af (es.map St.cells))):
 bp S (n+1) H (ja k nm A m a v o M O) (St.mk k nm A m F I al ts es).cells:=by
 have e:(St.mk k nm A m F I al ts es).cells=[.int .i64 k,.ad nm,.ad A,.int .i64 m]++F.cells++I.cells++[.af (al.map Ex.cells),.af (ts.map St.cells),.af (es.map St.cells)]:=by
  rw[rC,gP,gP];rfl
 rw[e];exact(((bp.cons (.int _ _) (.cons (.ad _) (.cons (.ad _) (.cons (.int _ _) .nil)))).append Z).append Y).append (.cons W (.cons V (.cons U .nil)))
def ip:qh:=[.int .i64 0,.int .i64 0,.ad [],.int .i64 0,.ab]
def r5:bp S (n+1) H ip F0.cells:=Fk 0 0 0 []
def F1(k:Int)(nm A:qi)(n:Int)(S:a.length=5)(Z:v.length=5)(o M O:AV):(ja k nm A n a v o M O).length=17:=by simp[ja,S,Z]
theorem oY(k:Int)(nm A:qi)(n:Int)(S:a.all AV.one=true)(Z:v.all AV.one=true)(m:AV.one o=true)(Y:AV.one M=true)(F:AV.one O=true):(ja k nm A n a v o M O).all AV.one=true:=by
 simp only[ja,List.all_append,S,Z,lG,lH,m,Y,F,la,k4];rfl
def yP(h:cs.length=17):∃c0 c1 c2 c3 c4 c5 c6 c7 F J V m o M Z O S,cs=[c0,c1,c2,c3,c4,c5,c6,c7,F,J,V,m,o,M,Z,O,S]:=by
 match cs,h with
 |[c0,c1,c2,c3,c4,c5,c6,c7,F,J,V,m,o,M,Z,O,S],_=>exact⟨c0,c1,c2,c3,c4,c5,c6,c7,F,J,V,m,o,M,Z,O,S,rfl⟩
def yQ(H:Hp)(h:cs.length=17):eu prog H 61 1 [(0,.agg cs)]=some (.sl H.next 0 1 17,H.alloc (.cells cs 0 true)):=by
 obtain⟨c0,c1,c2,c3,c4,c5,c6,c7,F,J,V,m,o,M,Z,O,S,rfl⟩:=yP h;kernel_rfl
end
section
def yR{P:Program}{cfg:Cfg}{f N:Nat}{a:SC}{E:ae}{Q:AX->ae->Hp->Prop}(F:ae->Hp->Prop)(m:bc P cfg f N a E H fun x E' H'=>x=.normal/\F E' H')(o:∀E' H',F E' H'->Q .normal E' H'):bc P cfg f N a E H Q:=
 oB (fun x E' H' h=>by obtain⟨rfl,h⟩:=h;exact o E' H' h) m
theorem kn(c0 c1 c2 c3 c4 c5 c6 c7 F J V m o M Z O S:AV):b8 17 [c0,c1,c2,c3,c4,c5,c6,c7,F,J,V,m,o,M,Z,O,S]=some (.agg [c0,c1,c2,c3,c4,c5,c6,c7,F,J,V,m,o,M,Z,O,S]):=rfl
def kq{a b d e:AV}(h:[a,b,c,d,e].all AV.one=true):AV.one a=true/\AV.one b=true/\AV.one c=true/\AV.one d=true/\AV.one e=true:=by
 simp only[lG,lH,la,cI]at h;exact⟨h.1,h.2.1,h.2.2.1,h.2.2.2.1,h.2.2.2.2⟩
def tyPzG.tyF:=ac @fE (ac @dF (ac @eV (ac @iT (ac @gV (ac @gy (ac @jC (ac @jD (ac @lw (ac @lB (@kn))))))))))
open tyPzG
noncomputable def yS:{c:SC // aI 21 (f100.body.getD .skip)=c}:=by
 refine⟨?_,?_⟩;rotate_left
 .simp only[f100,bQ,aI,bL,bB,bV,bW,Nat.blt,Nat.ble];rfl
noncomputable def yT:{c:SC // aI 93 (f58.body.getD .skip)=c}:=by
 refine⟨?_,?_⟩;rotate_left
 .simp only[f58,bQ,aI,bL,bB,bV,bW,Nat.blt,Nat.ble];rfl
noncomputable def yU:{c:SC // aI 75 (f101.body.getD .skip)=c}:=by
 refine⟨?_,?_⟩;rotate_left
 .simp only[f101,bQ,aI,bL,bB,bV,bW,Nat.blt,Nat.ble];rfl
theorem ks(o:PzL tb){en:Int}(O:l.length<2^40)(I:i<=l.length)(h:eU l n i=some r):km tb l en b 59 [] i r:=(uA o O (n+1) n (eI _) 3 0 fD i r I h).2.1 rfl
structure SqZ (l:qn) (en:Int) (b:Nat) (H:Hp) (zs:qh) (i:Nat) (cs:qh) (K:Hp):Prop where
 gb:K.get b=some (.cells [.af (l.map Tk.cells),.int .i64 (i:Int),.int .i64 en,.int .i64 0,.int .i64 0] 0 true)
 gz:K.get H.next=some (.cells zs 0 true)
 g3:K.get (H.next+1)=some (.cells cs 0 true)
 hb:b<H.next
 nx:H.next+2<=K.next
 le:i<=l.length
 dQ:∀k,k<H.next->k≠b->K.get k=H.get k
section
variable {l:qn} {en:Int} {b:Nat} {H K K' K2:Hp} {zs cs:qh} {i j:Nat}
def SqZ.aU(h:SqZ l en b H zs i cs K):zak l en b i K:=⟨h.gb,by have:=h.hb;have:=h.nx;omega⟩
def SqZ.start(h:zak l en b i H)(I:i<=l.length):SqZ l en b H zs i zs ((H.alloc (.cells zs 0 true)).alloc (.cells zs 0 true)):=by
 have C:=h.lt;refine⟨?_,?_,?_,C,aA _,I,fun k m o=>?_⟩
 .simp only[aP,cb];rw[aw aa,aw aa];exact h.get
 .simp only[aP,cb];rw[aw aa,aD trivial]
 .simp only[aP,cb];rw[aD trivial]
 .simp only[aP,cb];rw[aw aa,aw aa]
def SqZ.call(h:SqZ l en b H zs i cs K)(p:PrP l en b K j K'):SqZ l en b H zs j cs K':=by
 have C:=h.hb;have S:=h.nx;have hp:=p.next
 exact⟨p.get,(p.av _ aa aa).trans h.gz,(p.av _ aa aa).trans h.g3,C,aa,p.le,fun k m o=>(p.av k aa o).trans (h.dQ k m o)⟩
def SqZ.da(h:SqZ l en b H zs i cs K)(V:j<=l.length):SqZ l en b H zs j cs (K.set b (.cells [.af (l.map Tk.cells),.int .i64 (j:Int),.int .i64 en,.int .i64 0,.int .i64 0] 0 true)):=by
 have C:=h.hb;exact⟨eN,by rw[a0,aw aa];exact h.gz,by rw[a0,aw aa];exact h.g3,C,h.nx,V,fun k m o=>by rw[a0,aw o];exact h.dQ k m o⟩
def SqZ.put(h:SqZ l en b H zs i cs K)(cs':qh):SqZ l en b H zs i cs' (K.set (H.next+1) (.cells cs' 0 true)):=by
 have C:=h.hb;exact⟨by rw[a0,aw aa];exact h.gb,by rw[a0,aw aa];exact h.gz,eN,C,h.nx,h.le,fun k m o=>yw⟩
def ch(H K I:Hp):Prop:=K.next<=I.next/\∀k,H.next+1<k->k<K.next->I.get k=K.get k
def SqZ.frC(h:SqZ l en b H zs i cs K)(p:PrP l en b K j K'):ch H K K':=⟨p.next,fun k m o=>p.av k o (by have:=h.hb;omega)⟩
def SqZ.dC(h:SqZ l en b H zs i cs K):ch H K (K.set b x):=⟨aA _,fun k m o=>by have:=h.hb;rw[a0,aw aa]⟩
def ch.put:ch H K (K.set (H.next+1) x):=⟨aA _,fun k m o=>ue⟩
def mK:=@ch.put
def ch.trans(h:ch H K K')(U:ch H K' K2):ch H K K2:=⟨dB h.1 U.1,fun k m o=>(U.2 k m (eO o h.1)).trans (h.2 k m o)⟩
end
def bp.fq{c w:qh}(h:bp (fun k=>H.next+1<k) n K c w)(f:ch H K I):bp (fun k=>H.next+1<k) n I c w:=h.az (fun _ h=>h) f.1 fun k m o=>f.2 k m o
def bX.fq{w:AV}(h:bX (fun k=>H.next+1<k) n K c w)(f:ch H K I):bX (fun k=>H.next+1<k) n I c w:=h.az (fun _ h=>h) f.1 fun k m o=>f.2 k m o
def SqZ.fin{z:Nat}{en:Int}{M C:qh}(h:SqZ l en b H M i cs K)(O:cs.length=z)(m:cs.all AV.one=true)(Z:bp (fun k=>H.next+1<k) n K cs C):i9 z l en b H C i (.agg cs) (K.set H.next (.cells cs 0 true)):=by
 have Y:=h.hb;have S:=h.nx;exact⟨⟨n,cs,rfl,O,m,Z.ao (fun k _ h=>aa) (aA _) fun k A _=>ue⟩,⟨by rw[a0,aw aa];exact h.gb,oW,fun k m o=>yw,h.le⟩⟩
def r6(tb:qs)(l:qn)(en:Int)(b:Nat)(f:FuncId)(i:Nat)(r:St×Nat):Prop:=∀H:Hp,zak l en b i H->aL prog (a1 pls tb) f [.ptr b 0] H (i9 17 l en b H r.1.cells r.2)
def r7(l:qn)(n i:Nat):Option (St×Nat):=(fk l i).bind fun s=>
 if a3 l s.2 0 [91]then (eU l n (s.2+1)).bind fun a=>(bY l a.2 [93]).bind fun i=>(bY l i [61]).bind fun i=>(eU l n i).map fun c=>(.mk 2 s.1 [] 0 a.1 c.1 [] [] [],c.2)
 else (bY l s.2 [61]).bind fun i=>if gS l i 0&&a3 l i 1 [40]then none else (eU l n i).map fun c=>(.mk 1 s.1 [] 0 fD c.1 [] [] [],c.2)
abbrev qf:HB:=.cells [.int .i64 0,.ad [],.ad [],.int .i64 0,.int .i64 0,.int .i64 0,.ad [],.int .i64 0,.ab,.int .i64 0,.int .i64 0,.ad [],.int .i64 0,.ab,.ab,.ab,.ab] 0 true
set_option maxRecDepth 100000 in
def F2(o:PzL tb){en:Int}(O:l.length<2^40){r:St×Nat}(hi:i<=l.length)(h:r7 l n i=some r):r6 tb l en b 101 i r:=by
 intro H hP;have hw:zac (a1 pls tb) 101:=o.plain dH;have hbn:=hP.lt;have m1:(H.next+1 == H.next)=false:=bH aa;have m2:(H.next == H.next+1)=false:=bH aa;have m3:(H.next+1 == b)=false:=bH aa;have m4:(b == H.next+1)=false:=bH aa;generalize hHa:(H.alloc qf).alloc qf=K0;have Q0:SqZ l en b H [.int .i64 0,.ad [],.ad [],.int .i64 0,.int .i64 0,.int .i64 0,.ad [],.int .i64 0,.ab,.int .i64 0,.int .i64 0,.ad [],.int .i64 0,.ab,.ab,.ab,.ab] i [.int .i64 0,.ad [],.ad [],.int .i64 0,.int .i64 0,.int .i64 0,.ad [],.int .i64 0,.ab,.int .i64 0,.int .i64 0,.ad [],.int .i64 0,.ab,.ab,.ab,.ab] K0:=uu;refine bz (M:=75) (rs:=[.cell 2 124]) (hw.call _) hw.aB hw.an func101 rfl rfl yU.2 rfl ?_;dsimp only[yU,ba,Nat.reduceAdd];repeat' (first
  |(apply ai ?_;clear hK K)|apply Rx.o ?_|apply aU ?_|apply ag ?_|(apply ah fun K hK=>?_)|apply aj ?_|apply aq ?_)
 rw[hHa];clear hHa;unfold r7 at h;obtain⟨q,hq,h⟩:=aX.1 h;refine qa ?_;refine aR ?_ (lL o Q0.gb O hq);rintro v K1 ⟨rfl,p⟩;have Q1:=Q0.call p;clear p Q0;dsimp only[aJ];have V:=Q1.g3;repeat' (first
  |(apply ai ?_;clear hK K)|apply Rx.o ?_|apply aU ?_|apply ag ?_|(apply ah fun K hK=>?_)|apply aj ?_|apply aq ?_)
 generalize hK:Hp.set K1 _ _=K2;have f2:ch H K1 K2:=fH;have Q2:=Q1.put [.int .i64 0,.ad q.1,.ad [],.int .i64 0,.int .i64 0,.int .i64 0,.ad [],.int .i64 0,.ab,.int .i64 0,.int .i64 0,.ad [],.int .i64 0,.ab,.ab,.ab,.ab];rw[hK]at Q2;clear hK;clear V f2 Q1;have hq2:=Q2.le;have ka:∀s:qi,aL prog (a1 pls tb) 25 [.ptr b 0,.int .i64 0,.ad s] K2 fun v H'=>v=.bool (a3 l q.2 0 s)/\H'=K2:=fun s=>fI o Q2.gb O aa 0 bO s;split at h
 .rename_i A;obtain⟨u,hu,h⟩:=aX.1 h;obtain⟨i2,hi2,h⟩:=aX.1 h;obtain⟨i3,hi3,h⟩:=aX.1 h;obtain⟨c,hc,rfl⟩:=dC.1 h;clear h;have hi1:=lK A;have ea:IntKind.wrap .i64 ((q.2:Int)+1)=((q.2+1:Nat):Int):=dl;have V:=Q2.g3;have gb:=Q2.gb;repeat' (first
   |(apply ai ?_;clear hK K)|apply Ry.o ?_|apply aY ?_|(apply bu ?_;first|refine Rx.k (ka _) ?_)|(apply a6 (fun L U=>?_) (fun L U=>?_)<;>try(cases L;done))|(apply aE (fun C W=>?_) (fun C W=>?_)<;>try(cases C;done))|apply ag ?_|(apply ah fun K hK=>?_)|apply aj ?_|apply aq ?_)
  generalize hK:Hp.set _ b _=S;have f3:ch H K2 S:=by rw[<-hK];exact ch.trans mK (Q2.put _).dC
  have Y:=(Q2.put [.int .i64 2,.ad q.1,.ad [],.int .i64 0,.int .i64 0,.int .i64 0,.ad [],.int .i64 0,.ab,.int .i64 0,.int .i64 0,.ad [],.int .i64 0,.ab,.ab,.ab,.ab]).da (j:=q.2+1) aa;rw[hK]at Y;clear hK;clear V gb ka f3 Q2;refine qa ?_;refine aR ?_ (ks o O Y.le hu S Y.aU);rintro v K4 ⟨⟨n4,xs4,rfl,c1,c2,c3⟩,p⟩;have f4:=Y.frC p;have v4:bp (fun k=>H.next+1<k) n4 K4 xs4 u.1.cells:=c3.ao (fun k _ h=>by have:=Y.nx;omega) (aA _) fun _ _ _=>rfl;have Z:=Y.call p;obtain⟨x40,x41,x42,x43,x44,rfl⟩:=dY c1;obtain⟨w40,w41,w42,w43,w44⟩:=kq c2;clear c1 c3 p;dsimp only[aJ];clear Y f4;have V:=Z.g3;repeat' (first
   |(apply ai ?_;clear hK K)|apply Rx.o ?_|apply aU ?_|apply ag ?_|(apply ah fun K hK=>?_)|apply aj ?_|apply aq ?_)
  generalize hK:Hp.set K4 _ _=I;have f5:ch H K4 I:=fH;have m:=Z.put [.int .i64 2,.ad q.1,.ad [],.int .i64 0,x40,x41,x42,x43,x44,.int .i64 0,.int .i64 0,.ad [],.int .i64 0,.ab,.ab,.ab,.ab];rw[hK]at m;clear hK;have v5:=v4.fq f5;clear V Z v4 f5;refine qa ?_;refine aR ?_ (dy o m.gb O hi2);rintro v K6 p;have f6:=m.frC p;have Q6:=m.call p;clear p;dsimp only[aJ];repeat' (first
   |(apply ai ?_;clear hK K)|apply Rx.o ?_|apply aU ?_|apply ag ?_|(apply ah fun K hK=>?_)|apply aj ?_|apply aq ?_)
  have v6:=v5.fq f6;clear m v5 f6;refine qa ?_;refine aR ?_ (dy o Q6.gb O hi3);rintro v K7 p;have f7:=Q6.frC p;have Q7:=Q6.call p;clear p;dsimp only[aJ];repeat' (first
   |(apply ai ?_;clear hK K)|apply Rx.o ?_|apply aU ?_|apply ag ?_|(apply ah fun K hK=>?_)|apply aj ?_|apply aq ?_)
  have v7:=v6.fq f7;clear Q6 v6 f7;refine qa ?_;refine aR ?_ (ks o O Q7.le hc K7 Q7.aU);rintro v K8 ⟨⟨n8,xs8,rfl,c1,c2,c3⟩,p⟩;have f8:=Q7.frC p;have v8:bp (fun k=>H.next+1<k) n8 K8 xs8 c.1.cells:=c3.ao (fun k _ h=>by have:=Q7.nx;omega) (aA _) fun _ _ _=>rfl;have Q8:=Q7.call p;obtain⟨x80,x81,x82,x83,x84,rfl⟩:=dY c1;obtain⟨w80,w81,w82,w83,w84⟩:=kq c2;clear c1 c3 p;dsimp only[aJ];have a8:=v7.fq f8;clear Q7 v7 f8;have V:=Q8.g3;have gz:=Q8.gz;repeat' (first
   |(apply ai ?_;clear hK K)|apply Rx.o ?_|apply aU ?_|apply ag ?_|(apply ah fun K hK=>?_)|apply aj ?_|apply aq ?_)
  refine⟨aN,_,(by(try simp only[a2,bG,Nat.reduceBEq,Nat.reduceAdd,Nat.reduceLeDiff,tyF,cu,cG,kn, *]);first|done|with_reducible rfl),?_⟩;try simp only[aM]
  have Q9:=Q8.put [.int .i64 2,.ad q.1,.ad [],.int .i64 0,x40,x41,x42,x43,x44,x80,x81,x82,x83,x84,.ab,.ab,.ab];exact Q9.fin (n:=max n4 n8+5) rfl (oY 2 q.1 [] 0 (a:=[x40,x41,x42,x43,x44]) (v:=[x80,x81,x82,x83,x84]) (by simp only[lG,lH,w40,w41,w42,w43,w44,k4]) (by simp only[lG,lH,w80,w81,w82,w83,w84,k4]) rfl rfl rfl) (oX (n:=max n4 n8+4) (al:=[]) (ts:=[]) (es:=[]) 2 q.1 [] 0 ((a8.fq mK).up aa) ((v8.fq mK).up aa) .ab .ab .ab)
 .rename_i A;have A:a3 l q.2 0 [91]=false:=jY;obtain⟨i2,hi2,h⟩:=aX.1 h;repeat' (first
   |(apply ai ?_;clear hK K)|apply Ry.o ?_|apply aY ?_|(apply bu ?_;first|refine Rx.k (ka _) ?_)|(apply a6 (fun L U=>?_) (fun L U=>?_)<;>try(cases L;done))|(apply aE (fun C W=>?_) (fun C W=>?_)<;>try(cases C;done))|apply ag ?_|(apply ah fun K hK=>?_)|apply aj ?_|apply aq ?_)
  refine qa ?_;refine aR ?_ (dy o Q2.gb O hi2);rintro v S p;have f3:=Q2.frC p;have Y:=Q2.call p;clear p;dsimp only[aJ];repeat' (first
   |(apply ai ?_;clear hK K)|apply Rx.o ?_|apply aU ?_|apply ag ?_|(apply ah fun K hK=>?_)|apply aj ?_|apply aq ?_)
  clear Q2 ka f3;split at h
  .cases h
  rename_i hna;obtain⟨c,hc,rfl⟩:=dC.1 h;clear h;have hna:(gS l i2 0&&a3 l i2 1 [40])=false:=by simpa using hna
  have hi4:=Y.le;have dp:aL prog (a1 pls tb) 56 [.ptr b 0,.int .i64 0] S fun v H'=>v=.bool (gS l i2 0)/\H'=S:=yI o Y.gb O aa 0 bO;have J:aL prog (a1 pls tb) 25 [.ptr b 0,.int .i64 1,.ad [40]] S fun v H'=>v=.bool (a3 l i2 1 [40])/\H'=S:=fI o Y.gb O aa 1 bO [40];have V:=Y.g3;have fin:∀{n5:Nat}{I:Hp} (F:qh),F.length=5->F.all AV.one=true->SqZ l en b H [.int .i64 0,.ad [],.ad [],.int .i64 0,.int .i64 0,.int .i64 0,.ad [],.int .i64 0,.ab,.int .i64 0,.int .i64 0,.ad [],.int .i64 0,.ab,.ab,.ab,.ab] c.2 (ja 1 q.1 [] 0 ip ip .ab .ab .ab) I->bp (fun k=>H.next+1<k) n5 I F c.1.cells->i9 17 l en b H (St.mk 1 q.1 [] 0 fD c.1 [] [] []).cells c.2 (.agg (ja 1 q.1 [] 0 ip F .ab .ab .ab)) ((I.set (H.next+1) (.cells (ja 1 q.1 [] 0 ip F .ab .ab .ab) 0 true)).set H.next (.cells (ja 1 q.1 [] 0 ip F .ab .ab .ab) 0 true)):=fun{n5 I} F h1 h2 h3 h4=>by
   have Q9:=h3.put (ja 1 q.1 [] 0 ip F .ab .ab .ab);exact Q9.fin (n:=n5+5) (F1 1 q.1 [] 0 rfl h1 _ _ _) (oY 1 q.1 [] 0 (a:=ip) (v:=F) rfl h2 rfl rfl rfl) (oX (n:=n5+4) (al:=[]) (ts:=[]) (es:=[]) 1 q.1 [] 0 r5 ((h4.fq mK).up aa) .ab .ab .ab)
  cases hnm:gS l i2 0 with
  |false=>
   rw[hnm]at dp;repeat' (first
    |(apply ai ?_;clear hK K)|apply Ry.o ?_|apply aY ?_|(apply bu ?_;first|refine Rx.k (dp) ?_|refine Rx.k (J) ?_)|(apply a6 (fun L U=>?_) (fun L U=>?_)<;>try(cases L;done))|(apply aE (fun C W=>?_) (fun C W=>?_)<;>try(cases C;done))|apply ag ?_|(apply ah fun K hK=>?_)|apply aj ?_|apply aq ?_)
   generalize hK:Hp.set S _ _=K4;have f4:ch H S K4:=fH;have Z:=Y.put [.int .i64 1,.ad q.1,.ad [],.int .i64 0,.int .i64 0,.int .i64 0,.ad [],.int .i64 0,.ab,.int .i64 0,.int .i64 0,.ad [],.int .i64 0,.ab,.ab,.ab,.ab];rw[hK]at Z;clear hK;clear V dp J f4 Y;refine qa ?_;refine aR ?_ (ks o O Z.le hc K4 Z.aU);rintro v I ⟨⟨n5,xs5,rfl,c1,c2,c3⟩,p⟩;have f5:=Z.frC p;have v5:bp (fun k=>H.next+1<k) n5 I xs5 c.1.cells:=c3.ao (fun k _ h=>by have:=Z.nx;omega) (aA _) fun _ _ _=>rfl;have m:=Z.call p;obtain⟨x50,x51,x52,x53,x54,rfl⟩:=dY c1;obtain⟨w50,w51,w52,w53,w54⟩:=kq c2;clear c1 c3 p;dsimp only[aJ];clear Z f5;have V:=m.g3;have gz:=m.gz;repeat' (first
    |(apply ai ?_;clear hK K)|apply Rx.o ?_|apply aU ?_|apply ag ?_|(apply ah fun K hK=>?_)|apply aj ?_|apply aq ?_)
   refine⟨aN,_,(by(try simp only[a2,bG,Nat.reduceBEq,Nat.reduceAdd,Nat.reduceLeDiff,tyF,cu,cG,kn, *]);first|done|with_reducible rfl),?_⟩;try simp only[aM]
   exact fin [x50,x51,x52,x53,x54] rfl c2 m v5
  |true=>
   rw[hnm]at dp;rw[hnm,oA]at hna;rw[hna]at J;repeat' (first
    |(apply ai ?_;clear hK K)|apply Ry.o ?_|apply aY ?_|(apply bu ?_;first|refine Rx.k (dp) ?_|refine Rx.k (J) ?_)|(apply a6 (fun L U=>?_) (fun L U=>?_)<;>try(cases L;done))|(apply aE (fun C W=>?_) (fun C W=>?_)<;>try(cases C;done))|apply ag ?_|(apply ah fun K hK=>?_)|apply aj ?_|apply aq ?_)
   generalize hK:Hp.set S _ _=K4;have f4:ch H S K4:=fH;have Z:=Y.put [.int .i64 1,.ad q.1,.ad [],.int .i64 0,.int .i64 0,.int .i64 0,.ad [],.int .i64 0,.ab,.int .i64 0,.int .i64 0,.ad [],.int .i64 0,.ab,.ab,.ab,.ab];rw[hK]at Z;clear hK;clear V dp J f4 Y;refine qa ?_;refine aR ?_ (ks o O Z.le hc K4 Z.aU);rintro v I ⟨⟨n5,xs5,rfl,c1,c2,c3⟩,p⟩;have f5:=Z.frC p;have v5:bp (fun k=>H.next+1<k) n5 I xs5 c.1.cells:=c3.ao (fun k _ h=>by have:=Z.nx;omega) (aA _) fun _ _ _=>rfl;have m:=Z.call p;obtain⟨x50,x51,x52,x53,x54,rfl⟩:=dY c1;obtain⟨w50,w51,w52,w53,w54⟩:=kq c2;clear c1 c3 p;dsimp only[aJ];clear Z f5;have V:=m.g3;have gz:=m.gz;repeat' (first
    |(apply ai ?_;clear hK K)|apply Rx.o ?_|apply aU ?_|apply ag ?_|(apply ah fun K hK=>?_)|apply aj ?_|apply aq ?_)
   refine⟨aN,_,(by(try simp only[a2,bG,Nat.reduceBEq,Nat.reduceAdd,Nat.reduceLeDiff,tyF,cu,cG,kn, *]);first|done|with_reducible rfl),?_⟩;try simp only[aM]
   exact fin [x50,x51,x52,x53,x54] rfl c2 m v5
def yV(tb:qs)(l:qn)(en:Int)(b:Nat)(i:Nat)(r:qw×Nat):Prop:=∀H:Hp,zak l en b i H->aL prog (a1 pls tb) 100 [.ptr b 0] H fun v H'=>(∃n,(AV.one v=true/\v.cells=[v])/\bX (fun q=>H.next<=q) n H' v (.af (r.1.map St.cells)))/\PrP l en b H r.2 H'
def mL(l:qn)(n d i:Nat):Option (qw×Nat):=(bY l i [123]).bind fun j=>(dS.many l 0 (dS l n d) [125] d j).bind fun r=>(bY l r.2 [125]).map fun j=>(r.1,j)
def yW(l:qn)(f:Nat->Option (St×Nat))(e:qi)(m i:Nat):dS.many l 0 f e (m+1) i=if a3 l i 0 e then some ([],i)else (f i).bind fun s=>(dS.many l 0 f e m s.2).map fun r=>(s.1::r.1,r.2):=by rw[dS.many]
theorem F3(l:qn)(n d i:Nat):dS l n (d+1) i=if a3 l i 0 [105,102]then (bY l (i+1) [40]).bind fun i=>(eU l n i).bind fun c=>(bY l c.2 [41]).bind fun i=>(mL l n d i).bind fun b=>if a3 l b.2 0 [101,108,115,101]then none else some (.mk 3 [] [] 0 fD c.1 [] b.1 [],b.2)
 else if a3 l i 0 [119,104,105,108,101]then (bY l (i+1) [40]).bind fun i=>(eU l n i).bind fun c=>(bY l c.2 [41]).bind fun i=>(mL l n d i).bind fun b=>some (.mk 4 [] [] 0 fD c.1 [] b.1 [],b.2)
 else if a3 l i 0 [111,117,116]then (eU l n (i+1)).bind fun c=>(bY l c.2 [59]).map fun j=>(.mk 5 [] [] 0 fD c.1 [] [] [],j)
 else if a3 l i 0 [116,114,97,112]then none
 else (r7 l n i).bind fun s=>(bY l s.2 [59]).map fun j=>(s.1,j):=by
 rw[dS];simp only[mL,r7];split
 .rfl
 split
 .rfl
 split
 .rfl
 split
 .rfl
 cases fk l i with
 |none=>rfl
 |some s=>
  simp only[cD];split
  .cases eU l n (s.2+1)<;>simp only[mJ,cD];rename_i a;cases bY l a.2 [93]<;>simp only[mJ,cD];rename_i L;cases bY l L [61]<;>simp only[mJ,cD];rename_i U;cases eU l n U<;>simp only[mJ,cD,Option.map_none,eB]
  .cases bY l s.2 [61]<;>simp only[mJ,cD];rename_i U;split
   .rfl
   .cases eU l n U<;>simp only[mJ,cD,Option.map_none,eB]
set_option maxRecDepth 100000 in
theorem F4(hG:PzL tb){en:Int}(hl:l.length<2^40){r:qw×Nat}(hd:d<2^20)(ih:∀(i:Nat) (r:St×Nat),i<=l.length->dS l n d i=some r->r6 tb l en b 58 i r)(hi:i<=l.length)(h:mL l n d i=some r):yV tb l en b i r:=by
 intro H hP;have hw:zac (a1 pls tb) 100:=hG.plain dH;have hkeep:(a1 pls tb).az 100=false:=rfl;have hbn:=hP.lt;unfold mL at h;obtain⟨i1,e1,h⟩:=aX.1 h;obtain⟨⟨ss,i2⟩,W,h⟩:=aX.1 h;obtain⟨j,e3,rfl⟩:=dC.1 h;clear h;simp only[]at e3;refine bz (M:=21) (rs:=[.tmp 2]) (hw.call _) hw.aB hw.an func100 rfl rfl yS.2 rfl ?_;dsimp only[yS,ba,Nat.reduceAdd];repeat' (first
  |(apply ai ?_;clear hK K)|apply Rx.o ?_|apply ag ?_|(apply ah fun K hK=>?_)|apply au ?_|apply aj ?_|apply aq ?_|apply aB ?_)
 refine qa ?_;refine aR ?_ (dy hG hP.get hl e1);rintro v K1 p;have hn1:=p.next
 have L:=p.le;dsimp only[aJ];repeat' (first
  |(apply ai ?_;clear hK K)|apply Rx.o ?_|apply ag ?_|(apply ah fun K hK=>?_)|apply au ?_|apply aj ?_|apply aq ?_|apply aB ?_)
 refine lC [0,2] [] (fun F E J=>∃(S A:qw) (O n4:Nat) (lv:AV),F<=d/\dS.many l 0 (dS l n d) [125] F O=some (A,i2)/\O<=l.length/\J.get b=some (.cells (cM l O en) 0 true)/\E.at 3=lv/\br (fun q=>H.next<=q) n4 J 17 lv (S.map St.cells)/\S++A=ss/\S.length+F<=d/\(∀q,q<H.next->q≠b->J.get q=H.get q)) d ⟨[],ss,i1,0,.ab,aA _,W,L,p.get,eE,.inl ⟨rfl,rfl⟩,rfl,aK,p.av⟩ ?_;clear W;rintro F E3 J hcE hrH hnH ⟨S,A,O,n4,lv,hnn,W,hi',V,gi,C,hss,hlen,o3⟩;(try simp only[em,ep,df,a2,bG,Nat.reduceBEq,Nat.reduceAdd,Nat.reduceLeDiff,tyF, *]at hcE);have hn3:H.next<=J.next:=aa
 clear hrH p hn1 L;cases F with
 |zero=>rw[dS.many]at W;cases W
 |succ F=>
 rw[yW]at W;have ko:=jI hG V;have ka:aL prog (a1 pls tb) 25 [.ptr b 0,.int .i64 0,.ad [125]] J fun v H'=>v=.bool (a3 l O 0 [125])/\H'=J:=fI hG V hl aa 0 bO [125];split at W
 .rename_i Y;obtain⟨rfl,rfl⟩:[]=A/\O=i2:=md;rw[jo]at hss;subst hss;repeat' (first
   |(apply ai ?_;clear hK K)|apply Ry.o ?_|(apply bu ?_;first|refine Rx.k (ko) ?_|refine Rx.k (ka) ?_)|(apply a6 (fun hg hgp=>?_) (fun hg hgp=>?_)<;>try(cases hg;done))|(apply aE (fun hb hbp=>?_) (fun hb hbp=>?_)<;>try(cases hb;done))|apply ag ?_|(apply ah fun K hK=>?_)|apply au ?_|apply aj ?_|apply aq ?_|apply aB ?_)
  refine qa ?_;refine aR ?_ (dy hG V hl e3);rintro v K4 p;have hn4:=p.next
  dsimp only[aJ];repeat' (first
   |(apply ai ?_;clear hK K)|apply Rx.o ?_|apply ag ?_|(apply ah fun K hK=>?_)|apply au ?_|apply aj ?_|apply aq ?_|apply aB ?_)
  refine⟨aN,_,rV,?_⟩;try simp only[aM]
  exact⟨⟨_,C.one,(C.az (S':=fun q=>H.next<=q) (fun _ _ h=>h) p.next fun k h1 Z=>p.av k Z aa).rd⟩,⟨p.get,aa,fun k h1 Z=>(p.av k aa Z).trans (o3 k h1 Z),p.le⟩⟩
 .rename_i Y;have Y:a3 l O 0 [125]=false:=kW;obtain⟨s,hs,W⟩:=aX.1 W;obtain⟨⟨rs,j2⟩,e5,e4⟩:=dC.1 W;obtain⟨rfl,rfl⟩:s.1::rs=A/\j2=i2:=by simpa using e4
  clear e4;repeat' (first
   |(apply ai ?_;clear hK K)|apply Ry.o ?_|(apply bu ?_;first|refine Rx.k (ko) ?_|refine Rx.k (ka) ?_)|(apply a6 (fun hg hgp=>?_) (fun hg hgp=>?_)<;>try(cases hg;done))|(apply aE (fun hb hbp=>?_) (fun hb hbp=>?_)<;>try(cases hb;done))|apply ag ?_|(apply ah fun K hK=>?_)|apply au ?_|apply aj ?_|apply aq ?_|apply aB ?_)
  refine qa ?_;refine aR ?_ (ih O s hi' hs J ⟨V,aa⟩);rintro v' H4 ⟨⟨n5,cs,rfl,hc1,hc2,hc3⟩,p⟩;have hn4:=p.next
  have kb:=fun H=>yQ H hc1;dsimp only[aJ];repeat' (first
   |(apply ai ?_;clear hK K)|apply Rx.o ?_|apply ag ?_|(apply ah fun K hK=>?_)|apply au ?_|apply aj ?_|apply aq ?_|apply aB ?_)
  have hvq:∀q o m U,lv=.sl q o m U->H.next<=q/\q<J.next:=fun q o m U e=>by
   rcases C with⟨h0,_⟩|⟨q',imm,rows,h0,e1,W,_⟩
   .rw[h0]at e;cases e
   .rw[h0]at e;simp only[AV.sl.injEq]at e;rw[<-e.1];exact⟨e1,W⟩
  have I:br (fun q=>H.next<=q) (max n4 n5) (H4.alloc (.cells cs 0 true)) 17 lv (S.map St.cells):=(C.up aa).az (fun q _ h=>h) dW fun q h1 Z=>by rw[aP,aw aa,p.av q Z aa]
  obtain⟨v5,H5,dz,s5,n5',f5,q5⟩:=br.push (P:=prog) (t:=61) underlying61 rQ tT tU rfl az I dW (r:=H4.next) (imm:=0) (row:=cs) (w:=s.1.cells) gK hc1 hc2 ((hc3.up aa).ao (fun q h1 Z=>⟨aa,fun o m U e=>by have:=(hvq q o m U e).2;omega⟩) (fB _) fun q h1 Z=>hZ) iZ iZ;refine tK dx dx (by rw[hkeep];exact dz) ?_;simp only[cb]at n5' f5;have hn5:H4.next+1<=H5.next:=aa
  have hb5:H5.get b=some (.cells (cM l s.2 en) 0 true):=by rw[f5 b aa (fun o m U e=>by have:=(hvq b o m U e).1;omega),aP,aw aa];exact p.get
  have o5:∀q,q<H.next->q≠b->H5.get q=H.get q:=fun q h1 Z=>by rw[f5 q aa (fun o m U e=>by have:=(hvq q o m U e).1;omega),aP,aw aa,p.av q aa Z,o3 q h1 Z]
  clear n5' f5 dz I;repeat' (first
   |(apply ai ?_;clear hK K)|apply Rx.o ?_|apply ag ?_|(apply ah fun K hK=>?_)|apply au ?_|apply aj ?_|apply aq ?_|apply aB ?_)
  exact⟨cj,cj,aa,F,eI _,S++[s.1],rs,s.2,_,v5,aa,e5,p.le,hb5,eE,by rw[iO];exact s5,by rw[jm];exact hss,mI,o5⟩
def F5{c0 c1 c2 c3 c4 c5 c6 c7 F J V m Z S:AV}(h:[c0,c1,c2,c3,c4,c5,c6,c7,F,J,V,m,o,M,Z,O,S].all AV.one=true):AV.one c0=true/\AV.one c1=true/\AV.one c2=true/\AV.one c3=true/\AV.one c4=true/\AV.one c5=true/\AV.one c6=true/\AV.one c7=true/\AV.one F=true/\AV.one J=true/\AV.one V=true/\AV.one m=true/\AV.one o=true/\AV.one M=true/\AV.one Z=true/\AV.one O=true/\AV.one S=true:=by
 simpa only[lG,lH,la,cI]using h
set_option maxRecDepth 100000 in
def F6(o:PzL tb){en:Int}(hl:l.length<2^40){r:St×Nat}(ihb:∀(i:Nat) (r:qw×Nat),i<=l.length->mL l n d i=some r->yV tb l en b i r)(hi:i<=l.length)(h:dS l n (d+1) i=some r):r6 tb l en b 58 i r:=by
 intro H hP;have hw:zac (a1 pls tb) 58:=o.plain dH;have hbn:=hP.lt;have m1:(H.next+1 == H.next)=false:=bH aa;have m2:(H.next == H.next+1)=false:=bH aa;have m3:(H.next+1 == b)=false:=bH aa;have m4:(b == H.next+1)=false:=bH aa;generalize hHa:(H.alloc qf).alloc qf=K0;have V:SqZ l en b H [.int .i64 0,.ad [],.ad [],.int .i64 0,.int .i64 0,.int .i64 0,.ad [],.int .i64 0,.ab,.int .i64 0,.int .i64 0,.ad [],.int .i64 0,.ab,.ab,.ab,.ab] i [.int .i64 0,.ad [],.ad [],.int .i64 0,.int .i64 0,.int .i64 0,.ad [],.int .i64 0,.ab,.int .i64 0,.int .i64 0,.ad [],.int .i64 0,.ab,.ab,.ab,.ab] K0:=uu;refine bz (M:=93) (rs:=[.cell 2 124]) (hw.call _) hw.aB hw.an func58 rfl rfl yT.2 rfl ?_;dsimp only[yT,ba,Nat.reduceAdd];repeat' (first
  |(apply ai ?_;clear hK K)|apply Rx.o ?_|apply aU ?_|apply ag ?_|(apply ah fun K hK=>?_)|apply au ?_|apply aj ?_|apply aq ?_)
 rw[hHa];clear hHa;rw[F3]at h;have ka:∀s:qi,aL prog (a1 pls tb) 25 [.ptr b 0,.int .i64 0,.ad s] K0 fun v H'=>v=.bool (a3 l i 0 s)/\H'=K0:=fun s=>fI o V.gb hl aa 0 bO s;have F:=fun s:qi=>lK (l:=l) (i:=i) (k:=0) (s:=s);have ea:i+1<=l.length->IntKind.wrap .i64 ((i:Int)+1)=((i+1:Nat):Int):=fun _=>dl;have L:=V.g3;have gb:=V.gb;split at h
 .rename_i hif;obtain⟨i1,e1,h⟩:=aX.1 h;obtain⟨c,hc,h⟩:=aX.1 h;obtain⟨i2,e2,h⟩:=aX.1 h;obtain⟨bl,hbl,h⟩:=aX.1 h;split at h
  .cases h
  rename_i hel;have hel:a3 l bl.2 0 [101,108,115,101]=false:=by simpa using hel
  obtain rfl:=io h;clear h;have hi2:=F _ hif;have ea:=ea aa;repeat' (first
   |(apply ai ?_;clear hK K)|apply Ry.o ?_|apply aY ?_|(apply bu ?_;first|refine Rx.k (ka _) ?_)|(apply aE (fun A Z=>?_) (fun A Z=>?_)<;>try(cases A;done))|apply ag ?_|(apply ah fun K hK=>?_)|apply au ?_|apply aj ?_|apply aq ?_)
  generalize hK:Hp.set _ b _=K1;have f1:ch H K0 K1:=uv;have W:=(V.put [.int .i64 3,.ad [],.ad [],.int .i64 0,.int .i64 0,.int .i64 0,.ad [],.int .i64 0,.ab,.int .i64 0,.int .i64 0,.ad [],.int .i64 0,.ab,.ab,.ab,.ab]).da (j:=i+1) aa;rw[hK]at W;clear hK;clear L gb ka f1 V F ea;refine qa ?_;refine aR ?_ (dy o W.gb hl e1);rintro v K2 p;have f2:=W.frC p;have Q2:=W.call p;clear p;dsimp only[aJ];repeat' (first
   |(apply ai ?_;clear hK K)|apply Rx.o ?_|apply aU ?_|apply ag ?_|(apply ah fun K hK=>?_)|apply au ?_|apply aj ?_|apply aq ?_)
  clear W f2;refine qa ?_;refine aR ?_ (ks o hl Q2.le hc K2 Q2.aU);rintro v K3 ⟨⟨n3,xs3,rfl,c1,c2,c3⟩,p⟩;have f3:=Q2.frC p;have v3:bp (fun k=>H.next+1<k) n3 K3 xs3 c.1.cells:=c3.ao (fun k _ h=>by have:=Q2.nx;omega) (aA _) fun _ _ _=>rfl;have Y:=Q2.call p;obtain⟨I,J,U,S,O,rfl⟩:=dY c1;obtain⟨w30,w31,w32,w33,w34⟩:=kq c2;clear c1 c3 p;dsimp only[aJ];clear Q2 f3;have L:=Y.g3;repeat' (first
   |(apply ai ?_;clear hK K)|apply Rx.o ?_|apply aU ?_|apply ag ?_|(apply ah fun K hK=>?_)|apply au ?_|apply aj ?_|apply aq ?_)
  generalize hK:Hp.set K3 _ _=K4;have f4:ch H K3 K4:=fH;have C:=Y.put [.int .i64 3,.ad [],.ad [],.int .i64 0,.int .i64 0,.int .i64 0,.ad [],.int .i64 0,.ab,I,J,U,S,O,.ab,.ab,.ab];rw[hK]at C;clear hK;have v4:=v3.fq f4;clear L Y v3 f4;refine qa ?_;refine aR ?_ (dy o C.gb hl e2);rintro v K5 p;have f5:=C.frC p;have m:=C.call p;clear p;dsimp only[aJ];repeat' (first
   |(apply ai ?_;clear hK K)|apply Rx.o ?_|apply aU ?_|apply ag ?_|(apply ah fun K hK=>?_)|apply au ?_|apply aj ?_|apply aq ?_)
  have v5:=v4.fq f5;clear C v4 f5;refine qa ?_;refine aR ?_ (ihb i2 bl m.le hbl K5 m.aU);rintro tv K6 ⟨⟨n6,o6,iB⟩,p⟩;have f6:=m.frC p;have iB:bX (fun k=>H.next+1<k) n6 K6 tv (.af (bl.1.map St.cells)):=iB.az (fun k h=>by have:=m.nx;omega) (aA _) fun _ _ _=>rfl;have Q6:=m.call p;have v6:=v5.fq f6;clear p m v5 f6;obtain⟨o6a,o6b⟩:=o6;dsimp only[aJ];have L:=Q6.g3;repeat' (first
   |(apply ai ?_;clear hK K)|apply Rx.o ?_|apply aU ?_|apply ag ?_|(apply ah fun K hK=>?_)|apply au ?_|apply aj ?_|apply aq ?_)
  generalize hK:Hp.set K6 _ _=K7;have f7:ch H K6 K7:=fH;have Q7:=Q6.put [.int .i64 3,.ad [],.ad [],.int .i64 0,.int .i64 0,.int .i64 0,.ad [],.int .i64 0,.ab,I,J,U,S,O,.ab,tv,.ab];rw[hK]at Q7;clear hK;have v7:=v6.fq f7;have sr:=iB.fq f7;clear L Q6 v6 iB f7;have hq7:=Q7.le;have ka2:aL prog (a1 pls tb) 25 [.ptr b 0,.int .i64 0,.ad [101,108,115,101]] K7 fun v H'=>v=.bool (a3 l bl.2 0 [101,108,115,101])/\H'=K7:=fI o Q7.gb hl aa 0 bO [101,108,115,101];have L:=Q7.g3;have gz:=Q7.gz;repeat' (first
   |(apply ai ?_;clear hK K)|apply Ry.o ?_|apply aY ?_|(apply bu ?_;first|refine Rx.k (ka2) ?_)|(apply aE (fun A Z=>?_) (fun A Z=>?_)<;>try(cases A;done))|apply ag ?_|(apply ah fun K hK=>?_)|apply au ?_|apply aj ?_|apply aq ?_)
  refine⟨aN,_,(by(try simp only[a2,bG,Nat.reduceBEq,Nat.reduceAdd,Nat.reduceLeDiff,tyF,cu,cG,kn, *]);first|done|with_reducible rfl),?_⟩;try simp only[aM]
  exact Q7.fin (n:=max n3 n6+5) rfl (oY 3 [] [] 0 (a:=ip) (v:=[I,J,U,S,O]) rfl yo rfl o6a rfl) (oX (n:=max n3 n6+4) (al:=[]) (es:=[]) 3 [] [] 0 r5 (v7.up aa) .ab (sr.up aa) .ab)
 rename_i hif;have hif:a3 l i 0 [105,102]=false:=by simpa using hif
 split at h
 .rename_i hwh;obtain⟨i1,e1,h⟩:=aX.1 h;obtain⟨c,hc,h⟩:=aX.1 h;obtain⟨i2,e2,h⟩:=aX.1 h;obtain⟨bl,hbl,h⟩:=aX.1 h;obtain rfl:=io h;clear h;have hi2:=F _ hwh;have ea:=ea aa;repeat' (first
   |(apply ai ?_;clear hK K)|apply Ry.o ?_|apply aY ?_|(apply bu ?_;first|refine Rx.k (ka _) ?_)|(apply aE (fun A Z=>?_) (fun A Z=>?_)<;>try(cases A;done))|apply ag ?_|(apply ah fun K hK=>?_)|apply au ?_|apply aj ?_|apply aq ?_)
  generalize hK:Hp.set _ b _=K1;have f1:ch H K0 K1:=uv;have W:=(V.put [.int .i64 4,.ad [],.ad [],.int .i64 0,.int .i64 0,.int .i64 0,.ad [],.int .i64 0,.ab,.int .i64 0,.int .i64 0,.ad [],.int .i64 0,.ab,.ab,.ab,.ab]).da (j:=i+1) aa;rw[hK]at W;clear hK;clear L gb ka f1 V F ea;refine qa ?_;refine aR ?_ (dy o W.gb hl e1);rintro v K2 p;have f2:=W.frC p;have Q2:=W.call p;clear p;dsimp only[aJ];repeat' (first
   |(apply ai ?_;clear hK K)|apply Rx.o ?_|apply aU ?_|apply ag ?_|(apply ah fun K hK=>?_)|apply au ?_|apply aj ?_|apply aq ?_)
  clear W f2;refine qa ?_;refine aR ?_ (ks o hl Q2.le hc K2 Q2.aU);rintro v K3 ⟨⟨n3,xs3,rfl,c1,c2,c3⟩,p⟩;have f3:=Q2.frC p;have v3:bp (fun k=>H.next+1<k) n3 K3 xs3 c.1.cells:=c3.ao (fun k _ h=>by have:=Q2.nx;omega) (aA _) fun _ _ _=>rfl;have Y:=Q2.call p;obtain⟨I,J,U,S,O,rfl⟩:=dY c1;obtain⟨w30,w31,w32,w33,w34⟩:=kq c2;clear c1 c3 p;dsimp only[aJ];clear Q2 f3;have L:=Y.g3;repeat' (first
   |(apply ai ?_;clear hK K)|apply Rx.o ?_|apply aU ?_|apply ag ?_|(apply ah fun K hK=>?_)|apply au ?_|apply aj ?_|apply aq ?_)
  generalize hK:Hp.set K3 _ _=K4;have f4:ch H K3 K4:=fH;have C:=Y.put [.int .i64 4,.ad [],.ad [],.int .i64 0,.int .i64 0,.int .i64 0,.ad [],.int .i64 0,.ab,I,J,U,S,O,.ab,.ab,.ab];rw[hK]at C;clear hK;have v4:=v3.fq f4;clear L Y v3 f4;refine qa ?_;refine aR ?_ (dy o C.gb hl e2);rintro v K5 p;have f5:=C.frC p;have m:=C.call p;clear p;dsimp only[aJ];repeat' (first
   |(apply ai ?_;clear hK K)|apply Rx.o ?_|apply aU ?_|apply ag ?_|(apply ah fun K hK=>?_)|apply au ?_|apply aj ?_|apply aq ?_)
  have v5:=v4.fq f5;clear C v4 f5;refine qa ?_;refine aR ?_ (ihb i2 bl m.le hbl K5 m.aU);rintro tv K6 ⟨⟨n6,o6,iB⟩,p⟩;have f6:=m.frC p;have iB:bX (fun k=>H.next+1<k) n6 K6 tv (.af (bl.1.map St.cells)):=iB.az (fun k h=>by have:=m.nx;omega) (aA _) fun _ _ _=>rfl;have Q6:=m.call p;have v6:=v5.fq f6;clear p m v5 f6;obtain⟨o6a,o6b⟩:=o6;dsimp only[aJ];have L:=Q6.g3;have gz:=Q6.gz;repeat' (first
   |(apply ai ?_;clear hK K)|apply Rx.o ?_|apply aU ?_|apply ag ?_|(apply ah fun K hK=>?_)|apply au ?_|apply aj ?_|apply aq ?_)
  refine⟨aN,_,(by(try simp only[a2,bG,Nat.reduceBEq,Nat.reduceAdd,Nat.reduceLeDiff,tyF,cu,cG,kn, *]);first|done|with_reducible rfl),?_⟩;try simp only[aM]
  have Q7:=Q6.put [.int .i64 4,.ad [],.ad [],.int .i64 0,.int .i64 0,.int .i64 0,.ad [],.int .i64 0,.ab,I,J,U,S,O,.ab,tv,.ab];exact Q7.fin (n:=max n3 n6+5) rfl (oY 4 [] [] 0 (a:=ip) (v:=[I,J,U,S,O]) rfl yo rfl o6a rfl) (oX (n:=max n3 n6+4) (al:=[]) (es:=[]) 4 [] [] 0 r5 ((v6.fq mK).up aa) .ab ((iB.fq mK).up aa) .ab)
 rename_i hwh;have hwh:a3 l i 0 [119,104,105,108,101]=false:=by simpa using hwh
 split at h
 .rename_i hou;obtain⟨c,hc,h⟩:=aX.1 h;obtain⟨j,e1,rfl⟩:=dC.1 h;clear h;have hi2:=F _ hou;have ea:=ea aa;repeat' (first
   |(apply ai ?_;clear hK K)|apply Ry.o ?_|apply aY ?_|(apply bu ?_;first|refine Rx.k (ka _) ?_)|(apply aE (fun A Z=>?_) (fun A Z=>?_)<;>try(cases A;done))|apply ag ?_|(apply ah fun K hK=>?_)|apply au ?_|apply aj ?_|apply aq ?_)
  generalize hK:Hp.set _ b _=K1;have f1:ch H K0 K1:=uv;have W:=(V.put [.int .i64 5,.ad [],.ad [],.int .i64 0,.int .i64 0,.int .i64 0,.ad [],.int .i64 0,.ab,.int .i64 0,.int .i64 0,.ad [],.int .i64 0,.ab,.ab,.ab,.ab]).da (j:=i+1) aa;rw[hK]at W;clear hK;clear L gb ka f1 V F ea;refine qa ?_;refine aR ?_ (ks o hl W.le hc K1 W.aU);rintro v K2 ⟨⟨n2,xs2,rfl,c1,c2,c3⟩,p⟩;have f2:=W.frC p;have v2:bp (fun k=>H.next+1<k) n2 K2 xs2 c.1.cells:=c3.ao (fun k _ h=>by have:=W.nx;omega) (aA _) fun _ _ _=>rfl;have Q2:=W.call p;obtain⟨x20,x21,x22,x23,x24,rfl⟩:=dY c1;obtain⟨w20,w21,w22,w23,w24⟩:=kq c2;clear c1 c3 p;dsimp only[aJ];clear W f2;have L:=Q2.g3;repeat' (first
   |(apply ai ?_;clear hK K)|apply Rx.o ?_|apply aU ?_|apply ag ?_|(apply ah fun K hK=>?_)|apply au ?_|apply aj ?_|apply aq ?_)
  generalize hK:Hp.set K2 _ _=K3;have f3:ch H K2 K3:=fH;have Y:=Q2.put [.int .i64 5,.ad [],.ad [],.int .i64 0,.int .i64 0,.int .i64 0,.ad [],.int .i64 0,.ab,x20,x21,x22,x23,x24,.ab,.ab,.ab];rw[hK]at Y;clear hK;have v3:=v2.fq f3;clear L Q2 v2 f3;refine qa ?_;refine aR ?_ (dy o Y.gb hl e1);rintro v K4 p;have f4:=Y.frC p;have C:=Y.call p;clear p;dsimp only[aJ];repeat' (first
   |(apply ai ?_;clear hK K)|apply Rx.o ?_|apply aU ?_|apply ag ?_|(apply ah fun K hK=>?_)|apply au ?_|apply aj ?_|apply aq ?_)
  have v4:=v3.fq f4;clear Y v3 f4;have L:=C.g3;have gz:=C.gz;repeat' (first
   |(apply ai ?_;clear hK K)|apply Rx.o ?_|apply aU ?_|apply ag ?_|(apply ah fun K hK=>?_)|apply au ?_|apply aj ?_|apply aq ?_)
  refine⟨aN,_,(by(try simp only[a2,bG,Nat.reduceBEq,Nat.reduceAdd,Nat.reduceLeDiff,tyF,cu,cG,kn, *]);first|done|with_reducible rfl),?_⟩;try simp only[aM]
  exact C.fin (n:=n2+5) rfl (oY 5 [] [] 0 (a:=ip) (v:=[x20,x21,x22,x23,x24]) rfl (by simp only[lG,lH,w20,w21,w22,w23,w24,k4]) rfl rfl rfl) (oX (n:=n2+4) (al:=[]) (ts:=[]) (es:=[]) 5 [] [] 0 r5 (v4.up aa) .ab .ab .ab)
 rename_i hou;have hou:a3 l i 0 [111,117,116]=false:=by simpa using hou
 split at h
 .cases h
 rename_i htr;have htr:a3 l i 0 [116,114,97,112]=false:=by simpa using htr
 obtain⟨s,hs,h⟩:=aX.1 h;obtain⟨j,e1,rfl⟩:=dC.1 h;clear h;repeat' (first
  |(apply ai ?_;clear hK K)|apply Ry.o ?_|apply aY ?_|(apply bu ?_;first|refine Rx.k (ka _) ?_)|(apply aE (fun A Z=>?_) (fun A Z=>?_)<;>try(cases A;done))|apply ag ?_|(apply ah fun K hK=>?_)|apply au ?_|apply aj ?_|apply aq ?_)
 clear L gb ka F ea;refine qa ?_;refine aR ?_ (F2 o hl hi hs K0 V.aU);rintro v K1 ⟨⟨n1,ds,rfl,db,w1,v1⟩,p⟩;have f1:=V.frC p;have v1:bp (fun k=>H.next+1<k) n1 K1 ds s.1.cells:=v1.ao (fun k _ h=>by have:=V.nx;omega) (aA _) fun _ _ _=>rfl;have W:=V.call p;clear p V;obtain⟨c0,c1,c2,c3,c4,c5,c6,c7,c8,c9,d0,d1,d2,d3,d4,d5,d6,rfl⟩:=yP db;have a17:=F5 w1;dsimp only[aJ];have L:=W.g3;repeat' (first
  |(apply ai ?_;clear hK K)|apply Rx.o ?_|apply aU ?_|apply ag ?_|(apply ah fun K hK=>?_)|apply au ?_|apply aj ?_|apply aq ?_)
 generalize hK:Hp.set K1 _ _=K2;have f2:ch H K1 K2:=fH;have Q2:=W.put [c0,c1,c2,c3,c4,c5,c6,c7,c8,c9,d0,d1,d2,d3,d4,d5,d6];rw[hK]at Q2;clear hK;have v2:=v1.fq f2;clear L f2 W v1;refine qa ?_;refine aR ?_ (dy o Q2.gb hl e1);rintro v K3 p;have f3:=Q2.frC p;have Y:=Q2.call p;clear p;dsimp only[aJ];repeat' (first
  |(apply ai ?_;clear hK K)|apply Rx.o ?_|apply aU ?_|apply ag ?_|(apply ah fun K hK=>?_)|apply au ?_|apply aj ?_|apply aq ?_)
 have v3:=v2.fq f3;clear Q2 v2 f3;have L:=Y.g3;have gz:=Y.gz;repeat' (first
  |(apply ai ?_;clear hK K)|apply Rx.o ?_|apply aU ?_|apply ag ?_|(apply ah fun K hK=>?_)|apply au ?_|apply aj ?_|apply aq ?_)
 refine⟨aN,_,(by(try simp only[a2,bG,Nat.reduceBEq,Nat.reduceAdd,Nat.reduceLeDiff,tyF,cu,cG,kn, *]);first|done|with_reducible rfl),?_⟩;try simp only[aM]
 exact Y.fin rfl w1 v3
theorem yX{tb:qs}(o:PzL tb){l:qn}{en:Int}{b:Nat}(O:l.length<2^40){n:Nat}:∀d:Nat,d<2^20->∀(i:Nat) (r:St×Nat),i<=l.length->dS l n d i=some r->r6 tb l en b 58 i r
 |0,_,i,r,_,h=>by rw[dS]at h;cases h
 |d+1,hd,i,r,I,h=>F6 o O (fun i r I h=>F4 o O aa (fun i r I h=>yX o O d aa i r I h) I h) I h
end
end Go.Proofs.Ytbflaciihaijgaa
