/- Lemmas for the last file. -/
import Derived.Test.YtbflaciihaijgaaSEF
set_option linter.all false
set_option maxHeartbeats 32000000
namespace Go.Ab
set_option maxRecDepth 20000
open Go
variable{qb:Prop}
def xP(h:qb:=by simp only[em,ep,and_true,a2,bG,Nat.reduceBEq,Nat.reduceAdd,Nat.reduceLeDiff,tyF,gA, *]):=h
def xQ(h:qb:=by rw[List.drop_zero,List.length_take];omega):=h
def xR(h:qb:=by rw[List.flatten_append,List.length_append];omega):=h
def oK(h:qb:=by simp only[kT];omega):=h
def bO(h:qb:=by decide):=h
def oL(h:qb:=by simpa using h.symm):=h
def xS(h:qb:=by rw[List.length_map,show cm=70368744177664 from rfl];omega):=h
def dW(h:qb:=by simp only[cb];omega):=h
def xT(h:qb:=by rw[Nat.add_zero,Nat.zero_add];exact hwn.symm):=h
def rX(h:qb:=by show W=j+1+cz (s.drop (i+j+1));omega):=h
def oM(h:qb:=by rw[<- J,Hp.get_set,if_pos rfl]):=h
def tY(h:qb:=by rw[rA,gd];kernel_rfl):=h
def tZ(h:qb:=by rw[List.mem_singleton]at hr;subst hr;exact g60):=h
def ua(h:qb:=by rw[List.length_append];show db.length+1<=_;omega):=h
def ub(h:qb:=by rw[List.append_assoc];exact hl):=h
def xU(h:qb:=by simp only[a2,Nat.reduceBEq, *];exact oG (n:=s.length) aa aa):=h
def xV(h:qb:=by simp only[a2,Nat.reduceBEq, *];exact oG (n:=20) aa aa):=h
def xW(h:qb:=by simp only[a2,Nat.reduceBEq, *];exact oG (n:=7) aa aa):=h
def dl(h:qb:=by rw[ui aa aa];omega):=h
def xX(h:qb:=by rw[<- O,Hp.get_set,if_neg aa,aP,if_neg aa]):=h
def uc(h:qb:=by rw[<- J];simp only[Hp.get_set];repeat rw[if_neg aa]):=h
def ud(h:qb:=by rw[o6 0 aa (I 0 (.inl rfl)),od 0 aa];exact g0):=h
def ue(h:qb:=by rw[Hp.get_set,if_neg aa]):=h
def ki:=@List.length_map
def il:=@List.drop_eq_getElem_cons
def eI:=@Nat.lt_succ_self
def uf:=@Bool.false_and
def oN:=@List.mem_singleton
def rY:=@Bool.or_true
def ug:=@List.drop_eq_nil_of_le
end Go.Ab
namespace Go.Proofs.Ytbflaciihaijgaa
set_option maxRecDepth 20000
open Go Go.Ab Proofs.Try
variable(ρ:Nat->Int)
section
def tyR3a.tyF:=ac @rN (ac @dF (ac @eV (ac @lr (ac @my (ac @mz (ac @iS (ac @gy (ac @jC (ac @mA (ac @fE (@gV)))))))))))
open tyR3a
def mE(f:FuncId):zac (a1 pls []) f:=⟨fun _=>rfl,rfl,rfl⟩
def rZ{l:qs}{f:FuncId}(m:∀o,fF l f o=none)(Z:rW l f=false):zac (a1 pls l) f:=⟨m,Z,rfl⟩
noncomputable def xY:{c:SC // aI 21 (f52.body.getD .skip)=c}:=by
 refine⟨?_,?_⟩;rotate_left
 .simp only[f52,bQ,aI,bL,bB,bV,bW,Nat.blt,Nat.ble];rfl
noncomputable def xZ:{c:SC // aI 9 (f53.body.getD .skip)=c}:=by
 refine⟨?_,?_⟩;rotate_left
 .simp only[f53,bQ,aI,bL,bB,bV,bW,Nat.blt,Nat.ble];rfl
noncomputable def x5:{c:SC // aI 34 (f137.body.getD .skip)=c}:=by
 refine⟨?_,?_⟩;rotate_left
 .simp only[f137,bQ,aI,bL,bB,bV,bW,Nat.blt,Nat.ble];rfl
noncomputable def x6:{c:SC // aI 18 (f98.body.getD .skip)=c}:=by
 refine⟨?_,?_⟩;rotate_left
 .simp only[f98,bQ,aI,bL,bB,bV,bW,Nat.blt,Nat.ble];rfl
theorem Fb(n:Int):bN prog ρ 52 [.int .u8 n] (.bool (eG n)):=kh fit (pls:=pls) (l:=[]) trivial (.cons (.int _ _) .nil) (.bool _) (by
 have m:=mE 52;refine bz (M:=21) (rs:=[.tmp 2]) (m.call _) m.aB m.an func52 rfl rfl xY.2 rfl ?_;dsimp only[xY,ba,Nat.reduceAdd];repeat' (first
  |(apply ai ?_;clear hK K)|apply Rx.o ?_|apply gW ?_|(apply gg (fun L U=>?_) (fun L U=>?_)<;>try(cases L;done))|apply ag ?_|(apply ah fun K hK=>?_)|apply aq ?_)
 all_goals refine qq ?_
 all_goals (simp_all[eG]<;>omega))
theorem Fc(n:Int):bN prog ρ 53 [.int .u8 n] (.bool (dQ n)):=kh fit (pls:=pls) (l:=[]) trivial (.cons (.int _ _) .nil) (.bool _) (by
 have m:=mE 53;refine bz (M:=9) (rs:=[.tmp 2]) (m.call _) m.aB m.an func53 rfl rfl xZ.2 rfl ?_;dsimp only[xZ,ba,Nat.reduceAdd];repeat' (first
  |(apply ai ?_;clear hK K)|apply Rx.o ?_|(apply gg (fun L U=>?_) (fun L U=>?_)<;>try(cases L;done))|apply ag ?_|(apply ah fun K hK=>?_)|apply aq ?_)
 all_goals refine qq ?_
 all_goals (simp_all[dQ]<;>omega))
def jF(n:Int):qh:=[.int .u8 n]
def r0(x y:Int)(h:jF x=jF y):x=y:=by simpa [jF]using h
noncomputable def mF:En:=⟨52,false,fG (fun _=>True) jF fun n=>.bool (eG n)⟩
noncomputable def mG:En:=⟨53,false,fG (fun _=>True) jF fun n=>.bool (dQ n)⟩
def x7:iW prog ρ mF:=kg fun n _=>Fb ρ n
def x8:iW prog ρ mG:=kg fun n _=>Fc ρ n
theorem HF(s:qi)(hs:s.length<2^60):bN prog ρ 137 [.ad s] (.bool (rE s)):=kh fit (pls:=pls) (l:=[mF,mG]) ⟨x7 ρ,x8 ρ,trivial⟩ (.cons (.ad _) .nil) (.bool _) (by
 have o:zac (a1 pls [mF,mG]) 137:=rZ (fun _=>rfl) rfl;have kl:∀(n:Int) (H:Hp),aL prog (a1 pls [mF,mG]) 52 [.int .u8 n] H fun v H'=>v=.bool (eG n)/\H'=H:=fun n H=>iY (enc:=jF) (out:=fun n=>.bool (eG n)) r0 (x:=n) rfl trivial;have kd:∀(n:Int) (H:Hp),aL prog (a1 pls [mF,mG]) 53 [.int .u8 n] H fun v H'=>v=.bool (dQ n)/\H'=H:=fun n H=>iY (enc:=jF) (out:=fun n=>.bool (dQ n)) r0 (x:=n) rfl trivial;refine bz (M:=34) (rs:=[.tmp 2]) (o.call _) o.aB o.an func137 rfl rfl x5.2 rfl ?_;dsimp only[x5,ba,Nat.reduceAdd];repeat' (first
  |(apply ai ?_;clear hK K)|apply Rx.o ?_|apply gW ?_|(apply gg (fun L U=>?_) (fun L U=>?_)<;>try(cases L;done))|(apply bt (fun C Z=>?_) (fun C Z=>?_)<;>try(cases C;done))|apply ag ?_|(apply ah fun K hK=>?_)|apply au ?_|apply aj ?_|apply aq ?_|apply aB ?_)
 refine oF [0] [] 3 s.length (fun i E H=>cz s=i+cz (s.drop i)/\(0<i->∀b,s[0]?=some b->dQ b.toNat=false)) eE aK ?_;rintro i E H2 hi J I F hsI ⟨O,S⟩;(try simp only[em,ep,df,a2,bG,Nat.reduceBEq,Nat.reduceAdd,Nat.reduceLeDiff,tyF, *]at J);(try simp only[em,ep,df,a2,bG,Nat.reduceBEq,Nat.reduceAdd,Nat.reduceLeDiff,tyF, *]at I);(try simp only[cb,cH,jx,dd,Nat.reduceAdd]at F);repeat' (first
  |(apply ai ?_;clear hK K)|apply Rx.o ?_|apply gW ?_|(apply gg (fun L U=>?_) (fun L U=>?_)<;>try(cases L;done))|(apply bt (fun C Z=>?_) (fun C Z=>?_)<;>try(cases C;done))|apply ag ?_|(apply ah fun K hK=>?_)|apply au ?_|apply aj ?_|apply aq ?_|apply aB ?_)
 .have m:i<s.length:=by simpa using C
  have hgx:s[i]?=some s[i]:=bq m;have W:cz (s.drop i)=if el s[i]then cz (s.drop (i+1))+1 else 0:=by rw[il m,cz]
  repeat' (first
   |(apply ai ?_;clear hK K)|apply Rx.o ?_|(apply oI ?_;first|refine Rx.k (kl _ _) ?_|refine Rx.k (kd _ _) ?_)|apply gW ?_|(apply gg (fun L U=>?_) (fun L U=>?_)<;>try(cases L;done))|(apply bt (fun C Z=>?_) (fun C Z=>?_)<;>try(cases C;done))|apply ag ?_|(apply ah fun K hK=>?_)|apply au ?_|apply aj ?_|apply aq ?_|apply aB ?_)
  .all_goals refine qq ?_
   have V:i=0:=aa;subst V;unfold rE;cases s<;>simp_all
  .refine⟨aa,cj,cj,gX,xU,?_⟩;have Y:el s[i]=true:=by simp_all[el]
   refine⟨by rw[O,W,Y];simp;omega,fun _ b A=>S aa b A⟩
  .all_goals refine qq ?_
   have Y:el s[i]=false:=by simp_all[el]
   rw[Y]at W;simp at W;unfold rE;simp[show ¬cz s=s.length by omega]
  .refine⟨aa,cj,cj,gX,xU,?_⟩;have Y:el s[i]=true:=by simp_all[el]
   refine⟨by rw[O,W,Y];simp;omega,fun _ b A=>?_⟩;by_cases h0:0<i
   .exact S h0 b A
   .have V:i=0:=by omega
    subst V;rw[hgx]at A;have:s[0]=b:=jY;subst this;have hle:eG s[0].toNat=true:=by simp_all
    simp only[eG,dQ]at *;simp only[fZ,cI,dE]at hle;simp only[Bool.and_eq_false_iff,oH];omega
 all_goals
  have hie:i=s.length:=aa;all_goals refine qq ?_
  rw[hie]at O;simp[cz]at O;unfold rE;cases s<;>simp_all<;>omega)
def lE(l:List qi)(s:qi):Bool:=l.any fun x=>decide (x=s)
def gA:List qi:=[[97,114,114,97,121],[102,117,110,99],[118,97,114],[114,101,116,117,114,110],[105,102],[101,108,115,101],[119,104,105,108,101],[111,117,116],[116,114,97,112]]
def x9(s:qi):lE gA s=lh s:=by
 simp only[lE,gA,lh,List.any_cons,List.any_nil,Bool.or_false,<-Bool.or_assoc];simp only[eq_comm]
def Fe(H:Hp)(a b c d e f g h i:qi):eu prog H 60 9 [(0,.ad a),(1,.ad b),(2,.ad c),(3,.ad d),(4,.ad e),(5,.ad f),(6,.ad g),(7,.ad h),(8,.ad i)]=some (.sl H.next 0 9 1,H.alloc (.cells ([a,b,c,d,e,f,g,h,i].map .ad) 0 true)):=az
theorem Ff(s:qi):bN prog ρ 98 [.ad s] (.bool (lh s)):=kh fit (pls:=pls) (l:=[]) trivial (.cons (.ad _) .nil) (.bool _) (by
 have L:=mE 98;refine bz (M:=18) (rs:=[.tmp 2]) (L.call _) L.aB L.an func98 rfl rfl x6.2 rfl ?_;dsimp only[x6,ba,Nat.reduceAdd];have I:=@Fe;repeat' (first
  |(apply ai ?_;clear hK K)|apply Rx.o ?_|(apply bt (fun C Z=>?_) (fun C Z=>?_)<;>try(cases C;done))|apply ag ?_|(apply ah fun K hK=>?_)|apply au ?_|apply aj ?_|apply aq ?_|apply aB ?_)
 refine oF [0,3] [0] 4 9 (fun i E H=>lE gA s=lE (gA.drop i) s) eE aK ?_;rintro i E V hi W O S J U;(try simp only[em,ep,df,a2,bG,Nat.reduceBEq,Nat.reduceAdd,Nat.reduceLeDiff,tyF, *]at W);(try simp only[em,ep,df,a2,bG,Nat.reduceBEq,Nat.reduceAdd,Nat.reduceLeDiff,tyF, *]at O);(try simp only[cb,cH,jx,dd,Nat.reduceAdd]at S);have F:(0 == V.next)=false:=bH aa;have A:(V.next == 0)=false:=bH aa;change V.get 0=some (.cells (gA.map .ad) 0 true)at O;have o:gA.length=9:=rfl;repeat' (first
  |(apply ai ?_;clear hK K)|apply Rx.o ?_|(apply bt (fun C Z=>?_) (fun C Z=>?_)<;>try(cases C;done))|apply ag ?_|(apply ah fun K hK=>?_)|apply au ?_|apply aj ?_|apply aq ?_|apply aB ?_)
 .have m:i<gA.length:=by omega
  have hgx:gA[i]?=some gA[i]:=bq m;have Y:lE (gA.drop i) s=(decide (gA[i]=s)||lE (gA.drop (i+1)) s):=by rw[il m];rfl
  have hi9:decide (i<9)=true:=dj;repeat' (first
   |(apply ai ?_;clear hK K)|apply Ry.o ?_|(apply aE (fun C Z=>?_) (fun C Z=>?_)<;>try(cases C;done))|apply ag ?_|(apply ah fun K hK=>?_)|apply au ?_|apply aj ?_|apply aq ?_|apply aB ?_)
  .all_goals refine qq ?_
   rw[<-x9,U,Y];simp_all
  .refine⟨aa,xP,xP,gX,(by simp only[a2,Nat.reduceBEq, *];exact oG (n:=9) aa aa),?_⟩;rw[U,Y];simp_all
 .all_goals refine qq ?_
  rw[<-x9,U,show i=9 by omega];rfl)
def oO(s:qi):qh:=[.ad s]
def Fg(x y:qi)(h:oO x=oO y):x=y:=by simpa [oO]using h
noncomputable def uh:En:=⟨98,false,fG (fun _=>True) oO fun s=>.bool (lh s)⟩
def Fh:iW prog ρ uh:=kg fun s _=>Ff ρ s
end
section
namespace tyR3b
end tyR3b
open tyR3b
def ui{z:Int}(m:-9223372036854775808<=z)(o:z<9223372036854775808):IntKind.wrap .i64 z=z:=l3 _ aa
end
section
namespace tyR3g
end tyR3g
open tyR3g
def ya:List qi->List qi->Bool
 |_,[]=>false
 |seen,s::l=>lE seen s||ya (seen++[s]) l
end
section
namespace tyR3h
end tyR3h
open tyR3h
structure Sc where
 vars:List qi
 ag:Option (List qi)
 p:Pr
section
variable (vs an:List qi)
end
end
end Go.Proofs.Ytbflaciihaijgaa
namespace Go.Ab
set_option maxRecDepth 20000
open Go
variable{P:Program}{f:FuncId}{o:qh}{r v u:AV}{S S':Nat->Prop}{n:Nat}{H H':Hp}
def dX:Nat->AV->AV
 |0,v=>v
 |n+1,v=>match v with
  | .ab=>.af []
  | .af I=>.af (I.map fun S=>S.map (dX n))
  | .agg cs=>.agg (cs.map (dX n))
  | .aC cs=>.aC (cs.map (dX n))
  |v=>v
theorem VR.wk{G:Gh}:∀(n:Nat) {v:AV}{x:Value},VR G v x->VR G (dX n v) x
 |0,_,_,h=>h
 |n+1,v,x,h=>by
  cases h with
  |ab=>exact .b1 _ _
  |af vs W J M hc=>
   rename_i xs b o cap z;have:=VR.af (G:=G) (xs:=xs.map fun Z=>Z.map (dX n)) (b:=b) (o:=o) (cap:=cap) (z:=z) vs ?_ ?_ ?_ ?_
   .rw[ki]at this;exact this
   .intro i Z hr;rw[gp]at hr;cases U:xs[i]? with
    |none=>rw[U]at hr;simp at hr
    |some bi=>rw[U]at hr;simp only[eB,ak]at hr;rw[<-hr,ki];exact W i bi U
   .intro i j I Y;rw[ki]at I;exact J i j I Y
   .intro i j Z c hr V;rw[gp]at hr;cases U:xs[i]? with
    |none=>rw[U]at hr;simp at hr
    |some bi=>
     rw[U]at hr;simp only[eB,ak]at hr;rw[<-hr,gp]at V;cases S:bi[j]? with
     |none=>rw[S]at V;simp at V
     |some c0=>rw[S]at V;simp only[eB,ak]at V;rw[<-V];exact VR.wk n (M i j bi c0 U S)
   .rw[ki];exact hc
  |b1 a cap=>exact .b1 a cap
  |agg O M=>
   refine .agg (by rw[ki];exact O) fun i c v hc C=>?_;rw[gp]at hc;rename_i cs vs;cases S:cs[i]? with
   |none=>rw[S]at hc;simp at hc
   |some c0=>rw[S]at hc;simp only[eB,ak]at hc;rw[<-hc];exact VR.wk n (M i c0 v S C)
  |aC O M=>
   refine .aC (by rw[ki];exact O) fun i c v hc C=>?_;rw[gp]at hc;rename_i cs vs;cases S:cs[i]? with
   |none=>rw[S]at hc;simp at hc
   |some c0=>rw[S]at hc;simp only[eB,ak]at hc;rw[<-hc];exact VR.wk n (M i c0 v S C)
  |int k m=>exact .int k m
  |sx k e=>exact .sx k e
  |bool b=>exact .bool b
  |ad s l h=>exact .ad s l h
  |aY=>exact .aY
  |aO=>exact .aO
  |bh=>exact .bh
  |ptr h=>exact .ptr h
  |aN vs J M=>exact .aN vs J M
  |sl h O hc=>exact .sl h O hc
  |map h=>exact .map h
  |bj O M=>exact .bj O M
def bN.wk{ρ:Nat->Int}(n:Nat)(h:bN P ρ f o r):bN P ρ f o (dX n r):=
 ⟨h.1,fun G w vs m Z F=>(h.2 G w vs m Z F).mono fun _ _ ⟨v,Y,W,J,O⟩=>⟨v,Y,W,J.wk n,O⟩⟩
def Fi{ρ:Nat->Int}{r':AV}(n:Nat)(h:bN P ρ f o r)(e:dX n r=r'):bN P ρ f o r':=e▸h.wk n
def cg{W β:Type}(p:W->β->Prop):List W->List β->Prop
 |[],[]=>True
 |a::l,b::m=>p a b/\cg p l m
 |_,_=>False
theorem cg.len{W β:Type}{p:W->β->Prop}:∀{l:List W}{m:List β},cg p l m->l.length=m.length
 |[],[],_=>rfl
 |_::_,_::_,h=>by simp only[de,cg.len h.2]
theorem cg.mono{W β:Type}{p q:W->β->Prop}(h:∀a b,p a b->q a b):∀{l:List W}{m:List β},cg p l m->cg q l m
 |[],[],_=>trivial
 |_::_,_::_,k=>⟨h _ _ k.1,cg.mono h k.2⟩
theorem cg.append{W β:Type}{p:W->β->Prop}:∀{l:List W}{m:List β}{Y:List W}{Z:List β},cg p l m->cg p Y Z->cg p (l++Y) (m++Z)
 |[],[],_,_,_,h=>h
 |_::_,_::_,_,_,h,k=>⟨h.1,cg.append h.2 k⟩
def yb(v:AV):Prop:=dV v/\match v with
 | .sl _ _ _ _|.agg _=>False
 |_=>True
def b7(S:Nat->Prop):Nat->Hp->AV->AV->Prop
 |0,_,_,_=>False
 |n+1,H,v,u=>match v with
  | .sl r Z F z=>S r/\r<H.next/\∃cs C o l,H.get r=some (.cells cs C o)/\C<=cs.length/\Z+F*z<=cs.length/\cg (b7 S n H) ((cs.drop Z).take (F*z)) l/\u=.af (eM z F l)
  | .agg cs=>∃V,cg (b7 S n H) cs V/\u=.agg V
  |v=>dV v/\u=v
def b7.bH(h:yb v):b7 S (n+1) H v v:=by
 cases v<;>first|exact h.2.elim|exact⟨h.1,rfl⟩
theorem b7.up{S:Nat->Prop}{H:Hp}:∀{n m:Nat}{v u:AV},b7 S n H v u->n<=m->b7 S m H v u
 |0,_,_,_,h,_=>h.elim
 |n+1,0,_,_,_,hm=>by omega
 |n+1,m+1,v,u,h,hm=>by
  cases v with
  |sl r U L z=>
   obtain⟨Z,M,cs,C,o,l,Y,F,W,J,O⟩:=h;exact⟨Z,M,cs,C,o,l,Y,F,W,J.mono fun a b k=>b7.up k aa,O⟩
  |agg cs=>
   obtain⟨V,Z,Y⟩:=h;exact⟨V,Z.mono fun a b k=>b7.up k aa,Y⟩
  |_=>exact h
def jG(a b:Option HB):Prop:=a=b\/∃cs i j o,a=some (.cells cs i o)/\b=some (.cells cs j o)/\(i<=cs.length->j<=cs.length)
def jG.trans{a b c:Option HB}(h:jG a b)(k:jG b c):jG a c:=by
 rcases h with rfl|⟨cs,i,j,o,rfl,rfl,h⟩
 .exact k
 .rcases k with rfl|⟨A,Z,m,W,e,rfl,k⟩
  .exact .inr ⟨cs,i,j,o,rfl,rfl,h⟩
  .simp only[ak,HB.cells.injEq]at e;obtain⟨rfl,rfl,rfl⟩:=e;exact .inr ⟨cs,i,m,o,rfl,rfl,fun q=>k (h q)⟩
theorem b7.bw{S S':Nat->Prop}{H H':Hp}(ax:∀k,k<H.next->S k->S' k)(V:H.next<=H'.next)(W:∀k,S k->k<H.next->jG (H.get k) (H'.get k)):∀{n:Nat}{v u:AV},b7 S n H v u->b7 S' n H' v u
 |0,_,_,h=>h.elim
 |n+1,v,u,h=>by
  cases v with
  |sl r off len z=>
   obtain⟨m,M,cs,C,o,l,Y,F,U,J,O⟩:=h;have Z:=J.mono fun a b k=>b7.bw ax V W k;rcases W r m M with e|⟨cs',i,j,L,A,e2,e3⟩
   .exact⟨ax r M m,aa,cs,C,o,l,by rw[<-e];exact Y,F,U,Z,O⟩
   .rw[Y]at A;simp only[ak,HB.cells.injEq]at A;obtain⟨rfl,rfl,rfl⟩:=A;exact⟨ax r M m,aa,cs,j,o,l,e2,e3 F,U,Z,O⟩
  |agg cs=>
   obtain⟨I,m,Y⟩:=h;exact⟨I,m.mono fun a b k=>b7.bw ax V W k,Y⟩
  |_=>exact h
def b7.frame(ax:∀k,S k->S' k)(Z:H.next<=H'.next)(Y:∀k,S k->k<H.next->jG (H.get k) (H'.get k))(h:b7 S n H v u):b7 S' n H' v u:=h.bw (fun k _ q=>ax k q) Z Y
structure Icy (S:Nat->Prop) (H H':Hp):Prop where
 next:H'.next=H.next
 out:∀k,¬S k->H'.get k=H.get k
 av:∀k,jG (H.get k) (H'.get k)
def Icy.refl(S:Nat->Prop)(H:Hp):Icy S H H:=⟨rfl,fun _ _=>rfl,fun _=>.inl rfl⟩
def Icy.trans{a b c:Hp}(h:Icy S a b)(k:Icy S b c):Icy S a c:=⟨k.next.trans h.next,fun r hr=>(k.out r hr).trans (h.out r hr),fun r=>(h.av r).trans (k.av r)⟩
def Icy.ic(h:Icy S H H')(k:b7 S' n H v u):b7 S' n H' v u:=k.frame (fun _ q=>q) (Nat.le_of_eq h.next.symm) fun r _ _=>h.av r
theorem uj{S:Nat->Prop}{n:Nat}(ih:∀{v u:AV}{H:Hp},b7 S n H v u->∃H',fz n v H=some (u,H')/\Icy S H H'):∀{l m:qh}{H:Hp},cg (b7 S n H) l m->∃H',hU (fz n) l H=some (m,H')/\Icy S H H'
 |[],[],H,_=>⟨H,rfl,Icy.refl S H⟩
 |a::l,b::m,H,h=>by
  obtain⟨H1,Z,o⟩:=ih h.1;obtain⟨V,F,Y⟩:=uj ih (l:=l) (m:=m) (H:=H1) (h.2.mono fun a b k=>o.ic k);exact⟨V,by simp only[hU,Z,F],o.trans Y⟩
theorem b7.aB{S:Nat->Prop}:∀{n:Nat}{v u:AV}{H:Hp},b7 S n H v u->∃H',fz n v H=some (u,H')/\Icy S H H'
 |0,_,_,_,h=>h.elim
 |n+1,v,u,H,h=>by
  cases v with
  |sl r Z F z=>
   obtain⟨m,h0,cs,C,Y,l,V,U,M,J,rfl⟩:=h;have W:Icy S H (H.set r (.cells cs (max C (Z+F*z)) Y)):=by
    refine⟨rfl,fun k A=>by rw[a0,aw (fun e=>A (by rw[e];exact m))],fun k=>?_⟩;rw[a0];split
    .rename_i e;subst e;exact .inr ⟨cs,C,max C (Z+F*z),Y,V,rfl,fun _=>aa⟩
    .exact .inl rfl
   obtain⟨H',L,I⟩:=uj (fun k=>b7.aB k) (J.mono fun a b k=>W.ic k);refine⟨H',?_,W.trans I⟩;have e:fz (n+1) (.sl r Z F z) H=match H.get r with
    |some (.cells cs C Y)=>match Nat.ble (Z+F*z) cs.length&&Nat.ble C cs.length with
     |true=>match hU (fz n) ((cs.drop Z).take (F*z)) (H.set r (.cells cs (max C (Z+F*z)) Y))with
      |some (l',H)=>some (.af (eM z F l'),H)
      |none=>none
     |false=>none
    |_=>none:=rfl
   rw[e,V];have e1:Nat.ble (Z+F*z) cs.length=true:=by rw[Nat.ble_eq];exact M
   have e2:Nat.ble C cs.length=true:=by rw[Nat.ble_eq];exact U
   simp only[e1,e2,k4,L]
  |agg cs=>
   obtain⟨O,m,rfl⟩:=h;obtain⟨H',V,U⟩:=uj (fun k=>b7.aB k) m;refine⟨H',?_,U⟩;have e:fz (n+1) (.agg cs) H=match hU (fz n) cs H with
    |some (O,H)=>some (.agg O,H)
    |none=>none:=rfl
   rw[e,V]
  |ptr r o=>
   obtain⟨k,A⟩:=h.1;exact absurd (A (k+1) aa H) (by simp[iceV])
  |map r=>
   obtain⟨k,A⟩:=h.1;exact absurd (A (k+1) aa H) (by simp[iceV])
  |_=>exact⟨H,by rw[show u=_ from h.2];rfl,Icy.refl S H⟩
theorem oP{S:Nat->Prop}{n:Nat}{H:Hp}(ih:∀{v u:AV},b7 S n H v u->∃U,∀m,U<=m->iceV H m v=some u):∀{l k:qh},cg (b7 S n H) l k->∃U,∀m,U<=m->iceL (iceV H m) l=some k
 |[],[],_=>⟨0,fun _ _=>rfl⟩
 |a::l,b::k,h=>by
  obtain⟨F,Z⟩:=ih h.1;obtain⟨Y,o⟩:=oP ih (l:=l) (k:=k) h.2;exact⟨max F Y,fun m W=>by simp only[iceL,Z m aa,o m aa]⟩
theorem b7.iceV{S:Nat->Prop}{H:Hp}:∀{n:Nat}{v u:AV},b7 S n H v u->∃U,∀m,U<=m->iceV H m v=some u
 |0,_,_,h=>h.elim
 |n+1,v,u,h=>by
  cases v with
  |sl r Z F z=>
   obtain⟨Y,h0,cs,C,M,l,L,h3,h4,J,rfl⟩:=h;obtain⟨U,o⟩:=oP (fun k=>b7.iceV k) J;refine⟨U+1,fun m W=>?_⟩;obtain⟨m,rfl⟩:∃k,m=k+1:=⟨m-1,aa⟩;have e:Ab.iceV H (m+1) (.sl r Z F z)=match H.get r with
    |some (.cells cs _ _)=>match Ab.iceL (Ab.iceV H m) ((cs.drop Z).take (F*z))with
     |some O=>if O.length=F*z then some (.af (eM z F O))else none
     |none=>none
    |_=>none:=rfl
   have I:l.length=F*z:=by rw[<-J.len,kQ,gn];omega
   rw[e,L];simp only[o m aa,I,cy]
  |agg cs=>
   obtain⟨V,Y,rfl⟩:=h;obtain⟨U,o⟩:=oP (fun k=>b7.iceV k) Y;refine⟨U+1,fun m W=>?_⟩;obtain⟨m,rfl⟩:∃k,m=k+1:=⟨m-1,aa⟩;have e:Ab.iceV H (m+1) (.agg cs)=match Ab.iceL (Ab.iceV H m) cs with
    |some V=>some (.agg V)
    |none=>none:=rfl
   rw[e,o m aa]
  |_=>
   obtain⟨k,A⟩:=h.1;exact⟨k,fun m W=>by rw[A m W H,h.2]⟩
theorem yc(z:Nat):∀(U:List qh),(∀r∈U,r.length=z)->eM z U.length U.flatten=U
 |[],_=>rfl
 |r::U,h=>by
  have m:=h r gN;rw[l9,de];show(r++U.flatten).take z::eM z U.length ((r++U.flatten).drop z)=_;rw[ve aa,iI aa,sY aa,kP aa,j0,yc z U fun q A=>h q (iN _ A)]
theorem oQ{z:Nat}:∀{U:List qh},(∀r∈U,r.length=z)->U.flatten.length=U.length*z
 |[],_=>by simp
 |r::U,h=>by
  rw[l9,lZ,h r gN,oQ fun q A=>h q (iN _ A),de,nH];omega
theorem cg.bH{p:AV->AV->Prop}:∀{a b:List qh},cg (cg p) a b->cg p a.flatten b.flatten
 |[],[],_=>trivial
 |_::_,_::_,h=>by rw[l9,l9];exact h.1.append (cg.bH h.2)
theorem cg.cw{p:AV->AV->Prop}{z:Nat}:∀{a b:List qh},cg (cg p) a b->(∀r∈a,r.length=z)->∀r∈b,r.length=z
 |[],[],_,_,r,hr=>by simp at hr
 |x::a,y::b,h,hz,r,hr=>by
  rcases fg.1 hr with rfl|hr
  .rw[<-h.1.len];exact hz x gN
  .exact cg.cw h.2 (fun q A=>hz q (iN _ A)) r hr
def b7.rows{r z imm:Nat}{tip:Bool}{a b:List qh}(ax:S r)(hr:r<H.next)(L:H.get r=some (.cells a.flatten imm tip))(I:imm<=a.flatten.length)(C:∀x∈a,x.length=z)(h:cg (cg (b7 S n H)) a b):b7 S (n+1) H (.sl r 0 a.length z) (.af b):=by
 have O:=oQ C;refine⟨ax,hr,a.flatten,imm,tip,b.flatten,L,I,aa,?_,?_⟩
 .rw[kX,iI aa];exact h.bH
 .rw[h.len,yc z b (h.cw C)]
end Go.Ab
namespace Go.Proofs.Ytbflaciihaijgaa
set_option maxRecDepth 20000
open Go Go.Ab Proofs.Try
variable{S S':Nat->Prop}{n m r z:Nat}{H H':Hp}{v:AV}{w:qh}{a b C Z:List qh}{P:Program}{t e:TypeId}{tb:qs}
section
def tyG2.tyF:=ac @dF (ac @xe (@xu))
open tyG2
def bX(S:Nat->Prop)(n:Nat)(H:Hp)(v w:AV):Prop:=∃u,b7 S n H v u/\∀m,n<=m->dX m u=w
def bp(S:Nat->Prop)(n:Nat)(H:Hp)(cs C:qh):Prop:=∃I,cg (b7 S n H) cs I/\∀m,n<=m->I.map (dX m)=C
def bX.frame(ax:∀k,S k->S' k){w:AV}(h:bX S n H v w)(Z:H.next<=H'.next)(Y:∀k,S k->k<H.next->jG (H.get k) (H'.get k)):bX S' n H' v w:=by
 obtain⟨u,m,o⟩:=h;exact⟨u,m.frame ax Z Y,o⟩
def bp.frame(ax:∀k,S k->S' k){v:qh}(h:bp S n H v w)(Z:H.next<=H'.next)(Y:∀k,S k->k<H.next->jG (H.get k) (H'.get k)):bp S' n H' v w:=by
 obtain⟨u,m,o⟩:=h;exact⟨u,m.mono fun a b k=>k.frame ax Z Y,o⟩
def bp.az(ax:∀k,S k->S' k){v:qh}(h:bp S n H v w)(Z:H.next<=H'.next)(Y:∀k,S k->k<H.next->H'.get k=H.get k):bp S' n H' v w:=h.frame ax Z fun k m o=>.inl (Y k m o).symm
def bX.az(ax:∀k,S k->S' k){w:AV}(h:bX S n H v w)(Z:H.next<=H'.next)(Y:∀k,S k->k<H.next->H'.get k=H.get k):bX S' n H' v w:=h.frame ax Z fun k m o=>.inl (Y k m o).symm
def bX.up{w:AV}(h:bX S n H v w)(W:n<=m):bX S m H v w:=by
 obtain⟨u,Z,o⟩:=h;exact⟨u,Z.up W,fun k A=>o k aa⟩
def bp.up{v:qh}(h:bp S n H v w)(W:n<=m):bp S m H v w:=by
 obtain⟨u,Z,o⟩:=h;exact⟨u,Z.mono fun a b k=>k.up W,fun k A=>o k aa⟩
def bp.nil:bp S n H [] []:=⟨[],trivial,fun _ _=>rfl⟩
def bp.cons{w:AV}{cs C:qh}(h:bX S n H v w)(k:bp S n H cs C):bp S n H (v::cs) (w::C):=by
 obtain⟨u,Z,o⟩:=h;obtain⟨I,F,Y⟩:=k;exact⟨u::I,⟨Z,F⟩,fun m W=>by rw[mb,o m W,Y m W]⟩
def bp.append{S:Nat->Prop}{n:Nat}{H:Hp}:∀{a b c d:qh},bp S n H a b->bp S n H c d->bp S n H (a++c) (b++d)
 |a,b,c,d,⟨u,Z,o⟩,⟨v,F,Y⟩=>⟨u++v,Z.append F,fun m W=>by rw[iO,o m W,Y m W]⟩
def bX.bH(h:yb v)(A:∀m,dX m v=v):bX S (n+1) H v v:=⟨v,b7.bH h,fun m _=>A m⟩
theorem bX.int(k:IntKind)(x:Int):bX S (n+1) H (.int k x) (.int k x):=.bH ⟨.int _ _,trivial⟩ fun m=>by cases m<;>rfl
theorem bX.ad(s:qi):bX S (n+1) H (.ad s) (.ad s):=.bH ⟨.ad _,trivial⟩ fun m=>by cases m<;>rfl
def bX.ab:bX S (n+1) H .ab (.af []):=⟨.ab,b7.bH ⟨.ab,trivial⟩,fun m W=>by
 obtain⟨m,rfl⟩:∃k,m=k+1:=⟨m-1,aa⟩;rfl⟩
def dG(S:Nat->Prop)(n:Nat)(H:Hp)(z:Nat):List qh->List qh->Prop:=cg fun a b=>a.length=z/\bp S n H a b
theorem yd{S:Nat->Prop}{n z:Nat}{H:Hp}:∀{a b:List qh},dG S n H z a b->∃u,cg (cg (b7 S n H)) a u/\(∀m,n<=m->u.map (List.map (dX m))=b)/\∀x∈a,x.length=z
 |[],[],_=>⟨[],trivial,fun _ _=>rfl,aK⟩
 |x::a,y::b,⟨⟨hz,v,h1,h2⟩,h⟩=>by
  obtain⟨u,F,Y,J⟩:=yd (a:=a) (b:=b) h;exact⟨v::u,⟨h1,F⟩,fun m W=>by rw[mb,h2 m W,Y m W],fun q A=>by
   rcases fg.1 A with rfl|A
   .exact hz
   .exact J q A⟩
def bX.rows{imm:Nat}{tip:Bool}(ax:S r)(hr:r<H.next)(L:H.get r=some (.cells a.flatten imm tip))(I:imm<=a.flatten.length)(h:dG S n H z a b):bX S (n+1) H (.sl r 0 a.length z) (.af b):=by
 obtain⟨u,Y,o,F⟩:=yd h;refine⟨.af u,b7.rows ax hr L I F Y,fun m W=>?_⟩;obtain⟨m,rfl⟩:∃k,m=k+1:=⟨m-1,aa⟩;show AV.af (u.map fun Z=>Z.map (dX m))=_;rw[<-o m aa]
def dG.frame(ax:∀k,S k->S' k)(h:dG S n H z a b)(Z:H.next<=H'.next)(Y:∀k,S k->k<H.next->H'.get k=H.get k):dG S' n H' z a b:=cg.mono (fun x y k=>⟨k.1,k.2.az ax Z Y⟩) h
def dG.up(h:dG S n H z a b)(W:n<=m):dG S m H z a b:=cg.mono (fun x y k=>⟨k.1,k.2.up W⟩) h
def bp.dP(s:qi):bp S (n+1) H [.ad s] [.ad s]:=.cons (.ad s) .nil
def Fj(k m o:Int)(s:qi){kv:AV}{es:List Ex}(h:bX S (n+1) H kv (.af (es.map Ex.cells))):bp S (n+1) H [.int .i64 k,.int .i64 m,.ad s,.int .i64 o,kv] (Ex.mk k m s o es).cells:=by
 rw[gP];exact .cons (.int _ _) (.cons (.int _ _) (.cons (.ad _) (.cons (.int _ _) (.cons h .nil))))
def Fk(k m o:Int)(s:qi):bp S (n+1) H [.int .i64 k,.int .i64 m,.ad s,.int .i64 o,.ab] (Ex.mk k m s o []).cells:=Fj k m o s .ab
end
variable(ρ:Nat->Int)
section
def bp.ao{v:qh}(h:bp S n H v w)(ax:∀k,k<H.next->S k->S' k)(Z:H.next<=H'.next)(Y:∀k,S k->k<H.next->H'.get k=H.get k):bp S' n H' v w:=by
 obtain⟨u,m,o⟩:=h;exact⟨u,m.mono fun a b k=>k.bw ax Z fun q F W=>.inl (Y q F W).symm,o⟩
def bX.ao{w:AV}(h:bX S n H v w)(ax:∀k,k<H.next->S k->S' k)(Z:H.next<=H'.next)(Y:∀k,S k->k<H.next->H'.get k=H.get k):bX S' n H' v w:=by
 obtain⟨u,m,o⟩:=h;exact⟨u,m.bw ax Z fun q F W=>.inl (Y q F W).symm,o⟩
def dG.ao(h:dG S n H z a b)(ax:∀k,k<H.next->S k->S' k)(Z:H.next<=H'.next)(Y:∀k,S k->k<H.next->H'.get k=H.get k):dG S' n H' z a b:=cg.mono (fun x y k=>⟨k.1,k.2.ao ax Z Y⟩) h
theorem dG.len{S:Nat->Prop}{n z:Nat}{H:Hp}:∀{a b:List qh},dG S n H z a b->∀x∈a,x.length=z
 |[],[],_,x,U=>by simp at U
 |y::a,w::b,h,x,U=>by
  rcases fg.1 U with rfl|U
  .exact h.1.1
  .exact dG.len h.2 x U
def br(S:Nat->Prop)(n:Nat)(H:Hp)(z:Nat)(v:AV)(Z:List qh):Prop:=
 (v=.ab/\Z=[])\/∃q C U,v=.sl q 0 U.length z/\S q/\q<H.next/\H.get q=some (.cells U.flatten C true)/\C<=U.flatten.length/\dG (fun k=>S k/\k≠q) n H z U Z
theorem br.rd(h:br S n H z v C):bX S (n+1) H v (.af C):=by
 rcases h with⟨rfl,rfl⟩|⟨q,Z,U,rfl,m,o,F,Y,J⟩
 .exact .ab
 .exact .rows m o F Y (J.frame (fun k A=>A.1) (aA _) fun _ _ _=>rfl)
def br.up(h:br S n H z v Z)(W:n<=m):br S m H z v Z:=by
 rcases h with h|⟨q,C,U,e,Y,o,F,V,J⟩
 .exact .inl h
 .exact .inr ⟨q,C,U,e,Y,o,F,V,dG.up J W⟩
def br.az(h:br S n H z v Z)(ax:∀k,k<H.next->S k->S' k)(W:H.next<=H'.next)(Y:∀k,S k->k<H.next->H'.get k=H.get k):br S' n H' z v Z:=by
 rcases h with h|⟨q,C,U,e,m,o,F,M,J⟩
 .exact .inl h
 .exact .inr ⟨q,C,U,e,ax q o m,aa,by rw[Y q m o];exact F,M,J.ao (fun k V A=>⟨ax k V A.1,A.2⟩) W fun k O L=>Y k O.1 L⟩
def br.one{S:Nat->Prop}{n:Nat}{H:Hp}{z:Nat}{v:AV}{C:List qh}(h:br S n H z v C):AV.one v=true/\v.cells=[v]:=by
 rcases h with⟨rfl,rfl⟩|⟨q,Z,U,rfl,_⟩<;>exact⟨rfl,rfl⟩
def br.len(I:P.underlying t=some (.slice e))(h:br S n H z v C):dr P H' t v=some (.int .i64 C.length):=by
 rcases h with⟨rfl,rfl⟩|⟨q,Z,U,rfl,m,o,F,Y,J⟩
 .exact rx I
 .rw[ru I,show U.length=C.length from cg.len J]
theorem br.push{b:Nat}{zz:qh}(ht:P.underlying t=some (.slice e))(hs:aZ P e=some z)(hb:bT P e=some b)(hz:bM P e=some zz)(J:zz.length=z)(A:gE P t=true)
 {lo:Nat}{S:List qh} (h:br (fun k=>lo<=k) n H z v S) (F:lo<=H.next) {imm:Nat}{row:qh} (hg:H.get r=some (.cells row imm true)) (Z:row.length=z) (Y:row.all AV.one=true)
 (hw:bp (fun k=>lo<=k/\∀o m W,v≠.sl k o m W) n H row w) (I:(S.length+1)*b<=cm) (M:S.length+1<=cm) :
 ∃v' H',dh P false H t t v (.sl r 0 1 z)=some (v',H')/\br (fun k=>lo<=k) n H' z v' (S++[w])/\H'.next=H.next+1/\(∀k,k<H.next->(∀o m W,v≠.sl k o m W)->H'.get k=H.get k)/\∀k o m W,v'=.sl k o m W->k=H.next:=by
 have hx:hS H z (.sl r 0 1 z)=some (1,row):=by
  have:=tP (H:=H) (r:=r) (o:=0) (n:=1) (z:=z) (s:=z) hg xQ;rw[this,kX,iI aa]
 rcases h with⟨rfl,rfl⟩|⟨q,C,U,rfl,h1,h2,h3,h4,h5⟩
 .refine⟨.sl H.next 0 1 z,H.alloc (.cells row 0 true),append_nil ht hs hb hz A hx Y J nF kM,.inr ⟨H.next,0,[row],rfl,F,eI _,by rw[aP,aD rfl];simp,aK,⟨⟨Z,hw.ao (fun k h1 h2=>⟨h2.1,aa⟩) (fB _) fun k h1 h2=>hZ⟩,trivial⟩⟩,rfl,fun k hk _=>hZ,fun k o m W e=>?_⟩;simp only[AV.sl.injEq]at e;exact e.1.symm
 .have hrl:=oQ (dG.len h5);have hwl:U.length=S.length:=cg.len h5;have htr:fO false H z (.sl q 0 U.length z)=H:=by
   unfold fO;simp only[h3,dd];have:Nat.blt (U.length*z) U.flatten.length=false:=by
    cases hb:Nat.blt (U.length*z) U.flatten.length with
    |false=>rfl
    |true=>rw[fA]at hb;omega
   simp only[rn,oA,this,uf]
  refine⟨.sl H.next 0 (U.length+1) z,(H.aG q).alloc (.cells (U.flatten++row) (C-0) true),?_,.inr ⟨H.next,C-0,U++[row],aK,F,eI _,?_,xR,?_⟩,rfl,fun k hk hno=>?_,fun k o m W e=>?_⟩
  .simp only[dh,ht,hs,hb,hz,A,hx,Y,htr,J,and_self,cy,jQ,h3,dd,kX,bK,cT];rw[aD ⟨by rw[hwl];exact I,by rw[hwl];exact M,aa,trivial,h4⟩]
  .show((H.aG q).alloc _).get (H.aG q).next=_
   rw[aP,aD rfl];simp
  .have V:∀k,k<H.next->k≠q->((H.aG q).alloc (.cells (U.flatten++row) (C-0) true)).get k=H.get k:=fun k O L=>by rw[aP,aw oK,fX,aw L]
   refine cg.append (h5.ao (fun k O L=>⟨L.1,aa⟩) (fB _) fun k O L=>V k L O.2) ⟨⟨Z,hw.ao (fun k O L=>⟨L.1,aa⟩) (fB _) fun k O L=>V k L fun e=>O.2 0 U.length z k1⟩,trivial⟩
  .rw[aP,aw oK,fX,aw (fun e=>hno 0 U.length z k1)]
  .simp only[AV.sl.injEq]at e;exact e.1.symm
def ye{cfg:Cfg}(fit:Fit prog){ρ:Nat->Int}(F:fV cfg.bC ρ)(Z:∀f o r,cfg.call f o=some r->bN prog ρ f o r){g:FuncId}{o:qh}{r:AV}
 (J:eW o) (h:aL prog cfg g o bA fun v H'=>∃m u,iceV H' m v=some u/\dX n u=r):bN prog ρ g o r:=by
 unfold aL at h;obtain⟨v,H',Y,m,u,W,V⟩:=h;refine Fi n (EZ (m:=m) fit F Z J ?_) V;unfold aL;exact⟨v,H',Y,W⟩
theorem yf{b:Nat}{zz:qh}(ht:P.underlying t=some (.slice e))(hs:aZ P e=some z)(V:bT P e=some b)(hz:bM P e=some zz)(J:zz.length=z)(A:gE P t=true)
  (h:br S n H z v Z) (L:∀k,k<H.next->S k->S' k) (hN:S' H.next) {imm:Nat}{row:qh} (hg:H.get r=some (.cells row imm true)) (hrow:row.length=z) (Y:row.all AV.one=true)
 (W:(Z.length+1)*b<=cm) (O:Z.length+1<=cm) :
 ∃H' U C,dh P false H t t v (.sl r 0 1 z)=some (.sl H.next 0 (Z.length+1) z,H')/\U.length=Z.length/\(∀x∈U,x.length=z)/\H'.get H.next=some (.cells (U.flatten++row) C true)/\C<=U.flatten.length/\H'.next=H.next+1/\(∀k,k<H.next->(∀o m z',v≠.sl k o m z')->H'.get k=H.get k) /\
  dG (fun k=>S' k/\k≠H.next) n H' z U Z:=by
 have hx:hS H z (.sl r 0 1 z)=some (1,row):=by
  have:=tP (H:=H) (r:=r) (o:=0) (n:=1) (z:=z) (s:=z) hg xQ;rw[this,kX,iI aa]
 rcases h with⟨rfl,rfl⟩|⟨q,C,U,rfl,h1,h2,h3,h4,M⟩
 .exact⟨H.alloc (.cells row 0 true),[],0,append_nil ht hs V hz A hx Y J md (by simpa using O),rfl,aK,by rw[aP,aD rfl];simp,eC _,rfl,fun k hk _=>hZ,trivial⟩
 .have hrl:=oQ (dG.len M);have I:U.length=Z.length:=cg.len M;have htr:fO false H z (.sl q 0 U.length z)=H:=by
   unfold fO;simp only[h3,dd];have:Nat.blt (U.length*z) U.flatten.length=false:=by
    cases V:Nat.blt (U.length*z) U.flatten.length with
    |false=>rfl
    |true=>rw[fA]at V;omega
   simp only[rn,oA,this,uf]
  refine⟨(H.aG q).alloc (.cells (U.flatten++row) (C-0) true),U,C-0,?_,I,dG.len M,?_,aa,rfl,fun k hk F=>?_,?_⟩
  .simp only[dh,ht,hs,V,hz,A,hx,Y,htr,J,and_self,cy,jQ,h3,dd,kX,bK,cT];rw[aD ⟨by rw[I];exact W,by rw[I];exact O,aa,trivial,h4⟩,I]
  .show((H.aG q).alloc _).get (H.aG q).next=_
   rw[aP,aD rfl]
  .rw[aP,aw oK,fX,aw (fun e=>F 0 U.length z k1)]
  .exact M.ao (fun k h6 h7=>⟨L k h6 h7.1,aa⟩) (fB _) fun k h6 h7=>by rw[aP,aw oK,fX,aw h6.2]
def br.of{q imm:Nat}{U:List qh}{row:qh}(ax:S q)(A:q<H.next)(Y:∀x∈U,x.length=z)(C:row.length=z)(L:H.get q=some (.cells (U.flatten++row) imm true))(I:imm<=U.flatten.length)(hr:dG (fun k=>S k/\k≠q) n H z U Z)(m:bp (fun k=>S k/\k≠q) n H row w):br S n H z (.sl q 0 (Z.length+1) z) (Z++[w]):=by
 have O:U.length=Z.length:=cg.len hr;exact .inr ⟨q,imm,U++[row],by rw[lZ,O];rfl,ax,A,by rw[L];simp,xR,hr.append ⟨⟨C,m⟩,trivial⟩⟩
structure FnL (pt:Nat->Nat) (b n:Nat) (H:Hp) (f:Fu) (p l bo:AV) (v:qh):Prop where
 len:v.length=5
 one:v.all AV.one=true
 ps:br (fun q=>pt q=b) n H 1 p (f.params.map fun s=>[AV.ad s])
 ls:br (fun q=>pt q=b+1) n H 1 l (f.bv.map fun s=>[AV.ad s])
 bo:br (fun q=>pt q=b+2) n H 17 bo (f.body.map St.cells)
 vw:bp (fun q=>pt q=b+3) n H v f.value.cells
def yg(nm:qi)(p l J:AV)(v:qh):qh:=[.ad nm,p,l,J]++v
def Fl{b:Nat}{M:qh}(ht:P.underlying t=some (.slice e))(hs:aZ P e=some z)(hb:bT P e=some b)(hz:bM P e=some M)(J:M.length=z)(A:gE P t=true)
  (h:br S n H z v Z) (I:∀k,k<H.next->S k->S' k) (L:S' H.next) {imm:Nat}{row:qh} (hg:H.get r=some (.cells row imm true)) (C:row.length=z) (Y:row.all AV.one=true)
 (hw:bp (fun k=>S' k/\∀o m U,v≠.sl k o m U) n H row w) (W:(Z.length+1)*b<=cm) (O:Z.length+1<=cm) :
 ∃H',dh P false H t t v (.sl r 0 1 z)=some (.sl H.next 0 (Z.length+1) z,H')/\br S' n H' z (.sl H.next 0 (Z.length+1) z) (Z++[w])/\H'.next=H.next+1/\(∀k,k<H.next->(∀o m U,v≠.sl k o m U)->H'.get k=H.get k):=by
 obtain⟨H',rows,imm',cE,cK,fM,er,dz,ee,hO,a8⟩:=yf (P:=P) ht hs hb hz J A h I L hg C Y W O;refine⟨H',cE,?_,ee,hO⟩;exact br.of L aa fM C er dz a8 (hw.ao (fun k F V=>⟨V.1,aa⟩) aa fun k F V=>hO k V F.2)
def tyPzA.tyF:=ac @dF (ac @rN (ac @eV (ac @lq (ac @iT (ac @jD (ac @lA (ac @rP (ac @EV (@lr)))))))))
open tyPzA
noncomputable def yh:{c:SC // aI 53 (f54.body.getD .skip)=c}:=by
 refine⟨?_,?_⟩;rotate_left
 .simp only[f54,bQ,aI,bL,bB,bV,bW,Nat.blt,Nat.ble];rfl
noncomputable def yi:{c:SC // aI 54 (f55.body.getD .skip)=c}:=by
 refine⟨?_,?_⟩;rotate_left
 .simp only[f55,bQ,aI,bL,bB,bV,bW,Nat.blt,Nat.ble];rfl
noncomputable def yj:{c:SC // aI 125 (f23.body.getD .skip)=c}:=by
 refine⟨?_,?_⟩;rotate_left
 .simp only[f23,bQ,aI,bL,bB,bV,bW,Nat.blt,Nat.ble];rfl
structure NuX where
 s:qi
 most:Nat
def lF(x:NuX):qh:=[.ad x.s,.int .u64 (x.most:Int)]
def Fm(x y:NuX)(h:lF x=lF y):x=y:=by
 obtain⟨a,b⟩:=x;obtain⟨c,d⟩:=y;simp only[lF,nR,AV.ad.injEq,AV.int.injEq,df,k5]at h;obtain⟨rfl,h⟩:=h;rw[Int.ofNat.inj h]
def oR(x:NuX):Prop:=(gR x.s).isSome=true/\co x.s<=x.most/\x.most<2^64
def uk{s:qi}(h:(gR s).isSome=true):1<=s.length/\s.length<=19/\(∀b∈s,48<=b.toNat/\b.toNat<=57)/\(s.length=1\/s.headD 0≠48)/\co s<=9223372036854775808:=by
 unfold gR at h;split at h
 .rename_i c;simp only[cI,dE,fU,w6,fZ,mg,oH]at c;exact⟨c.1.1.1.1,c.1.1.1.2,fun b C=>c.1.1.2 b C,c.1.2,c.2⟩
 .cases h
theorem yk(s:qi)(b:UInt8):co (s++[b])=10*co s+(b.toNat-48):=by
 unfold co;rw[List.foldl_append];rfl
theorem yl:∀(n:Nat) (s:qi),s.length=n->(∀b∈s,48<=b.toNat/\b.toNat<=57)->co s<10^ n
 |0,s,h,_=>by rw[vG.1 h];decide
 |n+1,s,h,hd=>by
  have O:s≠[]:=fun e=>by rw[e]at h;simp at h
  have J:=List.dropLast_concat_getLast O;have ih:=yl n s.dropLast (by rw[List.length_dropLast,h];rfl) fun b C=>hd b (List.dropLast_subset _ C);have C:=hd _ (List.getLast_mem O);rw[<-J,yk,Nat.pow_succ];omega
def ul{z:Int}(m:0<=z)(o:z<18446744073709551616):IntKind.wrap .u64 z=z:=by rw[IntKind.wrap_u64];omega
def Fo{z:Int}(m:0<=z)(o:z<256):IntKind.wrap .u8 z=z:=by rw[IntKind.wrap_u8];omega
theorem Fp(x:NuX)(hx:oR x):bN prog ρ 54 (lF x) (.aC [.int .u64 (co x.s:Int),.bool true]):=kh fit (pls:=pls) (l:=[]) trivial (.cons (.ad _) (.cons (.int _ _) .nil)) (.aC (.cons (.int _ _) (.cons (.bool _) .nil))) (by
 obtain⟨s,A⟩:=x;obtain⟨h0,hm,J⟩:=hx;obtain⟨I,h2,hd,Y,-⟩:=uk h0;simp only[]at I h2 hd Y;have o:=mE 54;rw[lF];simp only[]at hm J⊢;refine bz (M:=53) (rs:=[.tmp 4,.tmp 5]) (o.call _) o.aB o.an func54 rfl rfl yh.2 rfl ?_;dsimp only[yh,ba,Nat.reduceAdd];repeat' (first
  |(apply ai ?_;clear hK K)|apply Rx.o ?_|apply ag ?_|(apply ah fun K hK=>?_)|apply au ?_|apply aj ?_|apply aq ?_|apply aB ?_)
 refine oF [0,1] [] 7 s.length (fun i E H=>E.at 6=.int .u64 (co (s.take i):Int)) eE (by simp only[bG];rfl) ?_;rintro i E H2 hi V O S hsI hJ;(try simp only[em,ep,df,a2,bG,Nat.reduceBEq,Nat.reduceAdd,Nat.reduceLeDiff,tyF, *]at V);(try simp only[em,ep,df,a2,bG,Nat.reduceBEq,Nat.reduceAdd,Nat.reduceLeDiff,tyF, *]at O);(try simp only[cb,cH,jx,dd,Nat.reduceAdd]at S);by_cases m:i<s.length
 .have F:(i:Int)<s.length:=by omega
  have hgx:s[i]?=some s[i]:=bq m;have C:=hd _ (jn m);have hg0:s[0]?=some s[0]:=bq aa;have hlv:=yl i (s.take i) nN fun b C=>hd b (List.mem_of_mem_take C);have hp:10^ i<=10^18:=Nat.pow_le_pow_right bO aa;have htk:co (s.take (i+1))=10*co (s.take i)+(s[i].toNat-48):=by rw[l1,hgx];exact yk _ _
  have hh:i=1->¬((s[0].toNat:Int)=48):=fun e=>by
   have:s.headD 0=s[0]:=by cases s with|nil=>simp at m|cons a t=>rfl
   rw[this]at Y;intro e2;rcases Y with Y|Y
   .omega
   .exact Y (UInt8.toNat_inj.1 (by show s[0].toNat=48;omega))
  generalize s[i]=b at *;generalize s[0]=b0 at *;generalize co (s.take i)=n at *;have c1:¬((b.toNat:Int)<48):=aa;have c2:¬((57:Int)<b.toNat):=aa;have c4:¬((18:Int)<i):=aa;have e1:IntKind.wrap .u8 ((b.toNat:Int)-48)=(b.toNat:Int)-48:=Fo aa aa;have e2:IntKind.wrap .u64 ((b.toNat:Int)-48)=(b.toNat:Int)-48:=ul aa aa;have e3:IntKind.wrap .u64 (10*(n:Int))=10*(n:Int):=ul aa aa;have e4:IntKind.wrap .u64 (10*(n:Int)+((b.toNat:Int)-48))=10*(n:Int)+((b.toNat:Int)-48):=ul aa aa;have W:∀z:Int,z=10*(n:Int)+((b.toNat:Int)-48)->AV.int .u64 z=.int .u64 (co (s.take (i+1)):Int):=fun z Y=>by rw[Y,htk];congr 1;omega
  by_cases c3:(i:Int)=1
  .have c5:=hh aa;have c6:decide ((i:Int)=1)=true:=by rw[c3];rfl
   clear c3;repeat' (first
    |(apply ai ?_;clear hK K)|apply Ry.o ?_|(apply a6 (fun L U=>?_) (fun L U=>?_)<;>try(cases L;done))|(apply aE (fun C Z=>?_) (fun C Z=>?_)<;>try(cases C;done))|apply ag ?_|(apply ah fun K hK=>?_)|apply au ?_|apply aj ?_|apply aq ?_|apply aB ?_)
   refine⟨aa,cj,cj,gX,xV,?_⟩;exact Eq.trans (b:=AV.int .u64 (10*(n:Int)+((b.toNat:Int)-48))) eE (W _ rfl)
  .repeat' (first
    |(apply ai ?_;clear hK K)|apply Ry.o ?_|(apply a6 (fun L U=>?_) (fun L U=>?_)<;>try(cases L;done))|(apply aE (fun C Z=>?_) (fun C Z=>?_)<;>try(cases C;done))|apply ag ?_|(apply ah fun K hK=>?_)|apply au ?_|apply aj ?_|apply aq ?_|apply aB ?_)
   refine⟨aa,cj,cj,gX,xV,?_⟩;exact Eq.trans (b:=AV.int .u64 (10*(n:Int)+((b.toNat:Int)-48))) eE (W _ rfl)
 .have F:¬(i:Int)<s.length:=by omega
  rw[iI aa]at hJ;have c1:¬(s=[]):=fun e=>by rw[e]at I;simp at I
  have c2:¬((A:Int)<co s):=aa;repeat' (first
   |(apply ai ?_;clear hK K)|apply Ry.o ?_|(apply a6 (fun L U=>?_) (fun L U=>?_)<;>try(cases L;done))|(apply aE (fun C Z=>?_) (fun C Z=>?_)<;>try(cases C;done))|apply ag ?_|(apply ah fun K hK=>?_)|apply au ?_|apply aj ?_|apply aq ?_|apply aB ?_)
  all_goals refine qq ?_
  all_goals trivial)
noncomputable def jH:En:=⟨54,false,fG oR lF fun x=>.aC [.int .u64 (co x.s:Int),.bool true]⟩
def um:iW prog ρ jH:=kg fun x U=>Fp ρ x U
def uo(h:∀W,fF tb 54 W=jH.sp W){s:qi}{most:Nat}(U:oR ⟨s,most⟩)(H:Hp):aL prog (a1 pls tb) 54 [.ad s,.int .u64 (most:Int)] H fun v H'=>v=.aC [.int .u64 (co s:Int),.bool true]/\H'=H:=iY (enc:=lF) (ok:=oR) (out:=fun x=>.aC [.int .u64 (co x.s:Int),.bool true]) Fm (x:=⟨s,most⟩) (h _) U
def ym{s t:qi}(h:rF s=some t):(∀t∈j9,s.take t.length≠t)/\t=s.take 1/\∃b r,s=b::r/\b∈iQ:=by
 unfold rF at h;split at h
 .rename_i c;simp only[cI,fU,mg,oH,List.contains_iff_mem]at c;refine⟨c.1,oL,?_⟩;cases s with
  |nil=>exact absurd c.2 bO
  |cons b r=>exact⟨b,r,rfl,c.2⟩
 .cases h
def Fq(H:Hp):eu prog H 60 7 [(0,.ad [62,62,62]),(1,.ad [60,60]),(2,.ad [62,62]),(3,.ad [60,61]),(4,.ad [62,61]),(5,.ad [61,61]),(6,.ad [33,61])]=some (.sl H.next 0 7 1,H.alloc (.cells (j9.map .ad) 0 true)):=az
def oS(s:qi):Prop:=∃t,rF s=some t
theorem Fs(s:qi)(hx:oS s):bN prog ρ 55 [.ad s] (.ad (s.take 1)):=kh fit (pls:=pls) (l:=[]) trivial (.cons (.ad _) .nil) (.ad _) (by
 obtain⟨t,ht⟩:=hx;obtain⟨hL,-,b,r,rfl,hbm⟩:=ym ht;have hw:=mE 55;refine bz (M:=54) (rs:=[.tmp 2]) (hw.call _) hw.aB hw.an func55 rfl rfl yi.2 rfl ?_;dsimp only[yi,ba,Nat.reduceAdd];have gh0:=@Fq;repeat' (first
  |(apply ai ?_;clear hK K)|apply Rx.o ?_|apply ag ?_|(apply ah fun K hK=>?_)|(apply ad 5 [(1,22),(5,22),(6,22),(13,22),(14,22),(15,22),(19,22)] fun K hK=>?_)|(apply ck 11 fun K hK=>?_)|(apply aG ?_;try intro _)|(apply aH ?_ ?_<;>clear hK K)|apply aF ?_|apply au ?_|apply aj ?_|apply aq ?_|apply aB ?_)
 refine oF [0,3] [0] 4 7 (fun i E H=>True) eE trivial ?_;rintro i E o hi W O S hsI A;(try simp only[em,ep,df,a2,bG,Nat.reduceBEq,Nat.reduceAdd,Nat.reduceLeDiff,tyF, *]at W);(try simp only[em,ep,df,a2,bG,Nat.reduceBEq,Nat.reduceAdd,Nat.reduceLeDiff,tyF, *]at O);(try simp only[cb,cH,jx,dd,Nat.reduceAdd]at S);have hB0:(0 == o.next)=false:=bH aa;have hC0:(o.next == 0)=false:=bH aa;have h7:j9.length=7:=rfl;by_cases V:i<7
 .have F:(i:Int)<((7:Nat):Int):=by omega
  have Y:(j9.map AV.ad)[i]?=some (.ad j9[i]):=by rw[gp,bq aa];rfl
  have hne:=hL _ (jn (by omega:i<j9.length));generalize j9[i]=t at *;have hix:cV prog 60 (.sl 0 0 7 1) (.int .i64 (i:Int))=some (.ptr 0 i):=by rw[wO underlying60 tQ V];simp
  by_cases J:t.length<=(b::r).length
  .have I:(t.length:Int)<=((r.length+1:Nat):Int):=by rw[de]at J;omega
   have hsl:=w8 (P:=prog) (k:=.i64) underlying9 J;repeat' (first
    |(apply ai ?_;clear hK K)|apply Ry.o ?_|(apply aE (fun C Z=>?_) (fun C Z=>?_)<;>try(cases C;done))|apply ag ?_|(apply ah fun K hK=>?_)|(apply ad 5 [(1,22),(5,22),(6,22),(13,22),(14,22),(15,22),(19,22)] fun K hK=>?_)|(apply ck 11 fun K hK=>?_)|(apply aG ?_;try intro _)|(apply aH ?_ ?_<;>clear hK K)|apply aF ?_|(apply cW (fun L U=>?_) (fun L U=>?_)<;>try(cases L;done))|apply au ?_|apply aj ?_|apply aq ?_|apply aB ?_)
   .exact cC
   refine⟨aa,cj,cj,gX,xW,?_⟩;trivial
  .have I:¬(t.length:Int)<=((r.length+1:Nat):Int):=by rw[de]at J;omega
   repeat' (first
    |(apply ai ?_;clear hK K)|apply Ry.o ?_|(apply aE (fun C Z=>?_) (fun C Z=>?_)<;>try(cases C;done))|apply ag ?_|(apply ah fun K hK=>?_)|(apply ad 5 [(1,22),(5,22),(6,22),(13,22),(14,22),(15,22),(19,22)] fun K hK=>?_)|(apply ck 11 fun K hK=>?_)|(apply aG ?_;try intro _)|(apply aH ?_ ?_<;>clear hK K)|apply aF ?_|(apply cW (fun L U=>?_) (fun L U=>?_)<;>try(cases L;done))|apply au ?_|apply aj ?_|apply aq ?_|apply aB ?_)
   .exact cC
   refine⟨aa,cj,cj,gX,xW,?_⟩;trivial
 .have F:¬(i:Int)<((7:Nat):Int):=by omega
  repeat' (first
   |(apply ai ?_;clear hK K)|apply Ry.o ?_|(apply aE (fun C Z=>?_) (fun C Z=>?_)<;>try(cases C;done))|apply ag ?_|(apply ah fun K hK=>?_)|(apply ad 5 [(1,22),(5,22),(6,22),(13,22),(14,22),(15,22),(19,22)] fun K hK=>?_)|(apply ck 11 fun K hK=>?_)|(apply aG ?_;try intro _)|(apply aH ?_ ?_<;>clear hK K)|apply aF ?_|(apply cW (fun L U=>?_) (fun L U=>?_)<;>try(cases L;done))|apply au ?_|apply aj ?_|apply aq ?_|apply aB ?_)
  refine oF [0,5] [] 6 23 (fun i E H=>b∉iQ.take i) eE aK ?_;clear F V hi;rintro i E o hi W O S hsI A;(try simp only[em,ep,df,a2,bG,Nat.reduceBEq,Nat.reduceAdd,Nat.reduceLeDiff,tyF, *]at W);(try simp only[em,ep,df,a2,bG,Nat.reduceBEq,Nat.reduceAdd,Nat.reduceLeDiff,tyF, *]at O);(try simp only[cb,cH,jx,dd,Nat.reduceAdd]at S);have h23:iQ.length=23:=rfl;have hsl:ef prog 9 (.ad (b::r)) none (some (.int .i64 1))=some (.ad ((b::r).take 1)):=w8 (P:=prog) (k:=.i64) (m:=1) underlying9 aK;by_cases V:i<23
  .have F:(i:Int)<((23:Nat):Int):=by omega
   have Y:iQ[i]?=some iQ[i]:=bq aa;have htk:iQ.take (i+1)=iQ.take i++[iQ[i]]:=by rw[l1,Y];rfl
   generalize iQ[i]=c at *;have Y:([43,45,42,47,37,38,124,94,126,33,60,62,61,63,58,59,44,40,41,123,125,91,93]:qi)[i]?=some c:=Y;by_cases hc:b=c
   .subst hc;repeat' (first
     |(apply ai ?_;clear hK K)|apply Ry.o ?_|(apply aE (fun C Z=>?_) (fun C Z=>?_)<;>try(cases C;done))|apply ag ?_|(apply ah fun K hK=>?_)|(apply ad 5 [(1,22),(5,22),(6,22),(13,22),(14,22),(15,22),(19,22)] fun K hK=>?_)|(apply ck 11 fun K hK=>?_)|(apply aG ?_;try intro _)|(apply aH ?_ ?_<;>clear hK K)|apply aF ?_|(apply cW (fun L U=>?_) (fun L U=>?_)<;>try(cases L;done))|apply au ?_|apply aj ?_|apply aq ?_|apply aB ?_)
    all_goals refine qq ?_
    rfl
   .have hc':¬((b.toNat:Int)=c.toNat):=fun e=>hc (UInt8.toNat_inj.1 aa);repeat' (first
     |(apply ai ?_;clear hK K)|apply Ry.o ?_|(apply aE (fun C Z=>?_) (fun C Z=>?_)<;>try(cases C;done))|apply ag ?_|(apply ah fun K hK=>?_)|(apply ad 5 [(1,22),(5,22),(6,22),(13,22),(14,22),(15,22),(19,22)] fun K hK=>?_)|(apply ck 11 fun K hK=>?_)|(apply aG ?_;try intro _)|(apply aH ?_ ?_<;>clear hK K)|apply aF ?_|(apply cW (fun L U=>?_) (fun L U=>?_)<;>try(cases L;done))|apply au ?_|apply aj ?_|apply aq ?_|apply aB ?_)
    refine⟨aa,cj,cj,gX,(by simp only[a2,Nat.reduceBEq, *];exact oG (n:=23) aa aa),?_⟩;rw[htk];intro h;rcases me.1 h with h|h
    .exact A h
    .exact hc (oN.1 h)
  .rw[iI aa]at A;exact absurd hbm A)
noncomputable def uq:En:=⟨55,false,fG oS (fun s=>[.ad s]) fun s=>.ad (s.take 1)⟩
def Ft:iW prog ρ uq:=kg fun x U=>Fs ρ x U
def Fv(h:∀W,fF tb 55 W=uq.sp W){s:qi}(U:oS s)(H:Hp):aL prog (a1 pls tb) 55 [.ad s] H fun v H'=>v=.ad (s.take 1)/\H'=H:=iY (enc:=fun s:qi=>[.ad s]) (ok:=oS) (out:=fun s=>.ad (s.take 1)) (fun x y h=>eF) (x:=s) (h _) U
end
section
def tyPzB.tyF:=ac @dF (ac @rN (ac @eV (ac @lq (ac @iT (ac @jD (@lA))))))
open tyPzB
def Fw{k C:IntKind}{s:qi}{a:Nat}(I:P.underlying t=some .string)(h:a+n<=s.length):ef P t (.ad s) (some (.int k (a:Int))) (some (.int C ((a+n:Nat):Int)))=some (.ad ((s.drop a).take n)):=by
 show ef P t (.ad s) (some (.int k (Int.ofNat a))) (some (.int C (Int.ofNat (a+n))))=_;simp only[ef,I,cX];rw[aD ⟨Nat.le_add_right _ _,h⟩,Nat.add_sub_cancel_left]
def ur(i:Int):dA prog 116 [(0,.int .i64 3),(1,.ad []),(2,.int .i64 i)]=some (.agg [.int .i64 3,.ad [],.int .i64 i]):=az
theorem oT(a b:AV):Ab.extract (.aC [a,b]) 0=some a:=rfl
theorem oU(a b:AV):Ab.extract (.aC [a,b]) 1=some b:=rfl
def yn:dA prog 44 []=some (.agg [.int .i64 0,.int .i64 0]):=az
def oV(H:Hp)(a:Int)(b:qi)(c:Int):eu prog H 72 1 [(0,.agg [.int .i64 a,.ad b,.int .i64 c])]=some (.sl H.next 0 1 3,H.alloc (.cells [.int .i64 a,.ad b,.int .i64 c] 0 true)):=az
noncomputable def gY:qs:=[mF,mG,jH,uq]
def Fx:iX prog ρ gY:=⟨x7 ρ,x8 ρ,um ρ,Ft ρ,trivial⟩
def Fy(x:Tk):bp S 2 H [.int .i64 x.ai,.ad x.text,.int .i64 x.aU] x.cells:=.cons (.int _ _) (.cons (.ad _) (.cons (.int _ _) .nil))
def us{A:AV}{l:qn}(h:br (fun k=>1<=k) 2 H 3 A (l.map Tk.cells))(S:1<=H.next)(x:Tk)(U:l.length<2^30):
 ∃H',dh prog false (H.alloc (.cells [.int .i64 x.ai,.ad x.text,.int .i64 x.aU] 0 true)) 72 72 A (.sl H.next 0 1 3)=some (.sl (H.next+1) 0 (l.length+1) 3,H')/\H'.next=H.next+2/\(∀k,k<H.next->(∀o m V,A≠.sl k o m V)->H'.get k=H.get k)/\br (fun k=>1<=k) 2 H' 3 (.sl (H.next+1) 0 (l.length+1) 3) ((l++[x]).map Tk.cells):=by
 obtain⟨H',ee,M,W,O⟩:=Fl (P:=prog) (t:=72) underlying72 rO xw xy rfl az (S':=fun k=>1<=k)
  (h.az (S':=fun k=>1<=k) (H':=H.alloc (.cells [.int .i64 x.ai,.ad x.text,.int .i64 x.aU] 0 true)) (fun _ _ h=>h) (fB _) fun k _ Y=>hZ) (fun _ _ h=>h) (Nat.le_succ_of_le S) (r:=H.next) (imm:=0) (row:=[.int .i64 x.ai,.ad x.text,.int .i64 x.aU]) (w:=x.cells) gK rfl rfl (Fy x)
  xS xS
 rw[ki]at ee M;refine⟨H',ee,by rw[W];rfl,fun k Y Z=>by rw[O k dW Z,aP,aw aa],?_⟩;rw[iO];exact M
def Fz:∀(s:qi),(s.take (cz s)).length=cz s:=fun s=>by rw[kQ];have:=tM s;omega
abbrev qd:HB:=.cells [.int .i64 0,.int .i64 0] 0 true
set_option maxRecDepth 100000 in
theorem FA(s:qi)(n:Nat)(l:qn)(h:ge n s 0=some l)(hs:s.length<=20000):
 aL prog (a1 pls gY) 23 [.ad s] bA fun v H'=>∃lv,v=.aC [lv,.agg [.int .i64 0,.int .i64 0]]/\br (fun k=>1<=k) 2 H' 3 lv (l.map Tk.cells):=by
 have hw:zac (a1 pls gY) 23:=rZ (fun _=>rfl) rfl;have hkeep:(a1 pls gY).az 23=false:=rfl;have kl:∀(n:Int) (H:Hp),aL prog (a1 pls gY) 52 [.int .u8 n] H fun v H'=>v=.bool (eG n)/\H'=H:=fun n H=>iY (enc:=jF) (out:=fun n=>.bool (eG n)) r0 (x:=n) rfl trivial;have kd:∀(n:Int) (H:Hp),aL prog (a1 pls gY) 53 [.int .u8 n] H fun v H'=>v=.bool (dQ n)/\H'=H:=fun n H=>iY (enc:=jF) (out:=fun n=>.bool (dQ n)) r0 (x:=n) rfl trivial;refine bz (M:=125) (rs:=[.tmp 2,.cell 3 44]) (hw.call _) hw.aB hw.an func23 rfl rfl yj.2 rfl ?_;dsimp only[yj,ba,Nat.reduceAdd];have hmax:¬((20000:Int)<s.length):=aa;repeat' (first
  |(apply ai ?_;clear hK K)|apply Ry.o ?_|apply aY ?_|apply dw ?_|(apply a6 (fun L U=>?_) (fun L U=>?_)<;>try(cases L;done))|(apply aE (fun C Z=>?_) (fun C Z=>?_)<;>try(cases C;done))|apply ag ?_|(apply ah fun K hK=>?_)|apply au ?_|apply aj ?_|apply aq ?_|apply aB ?_)
 refine lC [0,3] [0] (fun m E H=>∃(i:Nat) (db cU:qn) (lv:AV) (n':Nat),m=s.length-i/\i<=s.length/\db.length<=i/\E.at 5=.int .i64 (i:Int)/\E.at 4=lv/\br (fun k=>1<=k) 2 H 3 lv (db.map Tk.cells)/\ge n' (s.drop i) i=some cU/\db++cU=l) s.length ⟨0,[],l,.ab,n,rfl,eC _,aA _,eE,eE,.inl ⟨rfl,rfl⟩,h,rfl⟩ ?_;clear h;rintro m E2 Y hcE hrH hnH ⟨i,db,cU,lv,n',rfl,hi,hli,u0,iA,S,V,hl⟩;(try simp only[em,ep,df,a2,bG,Nat.reduceBEq,Nat.reduceAdd,Nat.reduceLeDiff,tyF, *]at hcE);have g0:Y.get 0=some qd:=(hrH 0 gN).trans rfl;have hn1:1<=Y.next:=hnH
 clear hrH hnH;have nn1:(0 == Y.next)=false:=bH aa;have nn2:(Y.next == 0)=false:=bH aa;by_cases hlt:i<s.length
 .have hlt':(i:Int)<s.length:=by omega
  have hgx:s[i]?=some s[i]:=bq hlt;have hdr:=il hlt;generalize s[i]=c at *;rw[hdr]at V;cases n' with
  |zero=>cases V
  |succ n'=>
  unfold ge at V;simp only[]at V;have e5:IntKind.wrap .i64 ((i:Int)+1)=((i+1:Nat):Int):=dl;by_cases hbl:rD c=true
  .rw[aD hbl]at V;have hb4:c.toNat=32\/c.toNat=9\/c.toNat=10\/c.toNat=13:=by
    unfold rD at hbl;simp only[fZ,dE]at hbl;omega
   rcases hb4 with e|e|e|e
   .have e':(c.toNat:Int)=32:=by omega
    clear e hbl;repeat' (first
     |(apply ai ?_;clear hK K)|apply Ry.o ?_|apply aY ?_|apply dw ?_|(apply a6 (fun L U=>?_) (fun L U=>?_)<;>try(cases L;done))|(apply aE (fun C Z=>?_) (fun C Z=>?_)<;>try(cases C;done))|apply ag ?_|(apply ah fun K hK=>?_)|apply au ?_|apply aj ?_|apply aq ?_|apply aB ?_)
    exact⟨cj,cj,gX,s.length-(i+1),aa,i+1,db,cU,lv,n',rfl,aa,aa,eE,eE,S,V,hl⟩
   .have e':(c.toNat:Int)=9:=by omega
    clear e hbl;repeat' (first
     |(apply ai ?_;clear hK K)|apply Ry.o ?_|apply aY ?_|apply dw ?_|(apply a6 (fun L U=>?_) (fun L U=>?_)<;>try(cases L;done))|(apply aE (fun C Z=>?_) (fun C Z=>?_)<;>try(cases C;done))|apply ag ?_|(apply ah fun K hK=>?_)|apply au ?_|apply aj ?_|apply aq ?_|apply aB ?_)
    exact⟨cj,cj,gX,s.length-(i+1),aa,i+1,db,cU,lv,n',rfl,aa,aa,eE,eE,S,V,hl⟩
   .have e':(c.toNat:Int)=10:=by omega
    clear e hbl;repeat' (first
     |(apply ai ?_;clear hK K)|apply Ry.o ?_|apply aY ?_|apply dw ?_|(apply a6 (fun L U=>?_) (fun L U=>?_)<;>try(cases L;done))|(apply aE (fun C Z=>?_) (fun C Z=>?_)<;>try(cases C;done))|apply ag ?_|(apply ah fun K hK=>?_)|apply au ?_|apply aj ?_|apply aq ?_|apply aB ?_)
    exact⟨cj,cj,gX,s.length-(i+1),aa,i+1,db,cU,lv,n',rfl,aa,aa,eE,eE,S,V,hl⟩
   .have e':(c.toNat:Int)=13:=by omega
    clear e hbl;repeat' (first
     |(apply ai ?_;clear hK K)|apply Ry.o ?_|apply aY ?_|apply dw ?_|(apply a6 (fun L U=>?_) (fun L U=>?_)<;>try(cases L;done))|(apply aE (fun C Z=>?_) (fun C Z=>?_)<;>try(cases C;done))|apply ag ?_|(apply ah fun K hK=>?_)|apply au ?_|apply aj ?_|apply aq ?_|apply aB ?_)
    exact⟨cj,cj,gX,s.length-(i+1),aa,i+1,db,cU,lv,n',rfl,aa,aa,eE,eE,S,V,hl⟩
  .rw[aw hbl]at V;have hb4:¬(c.toNat=32)/\¬(c.toNat=9)/\¬(c.toNat=10)/\¬(c.toNat=13):=by
    unfold rD at hbl;simp only[fZ,dE,not_or]at hbl;omega
   have c32:¬((c.toNat:Int)=32):=aa;have c9:¬((c.toNat:Int)=9):=aa;have c10:¬((c.toNat:Int)=10):=aa;have c13:¬((c.toNat:Int)=13):=aa;clear hbl hb4;split at V
   .cases V
   rename_i h35;have c35:¬((c.toNat:Int)=35):=fun e=>h35 (by simpa using (by omega:c.toNat=35));clear h35;by_cases F:el c=true
   .rw[aD F]at V;have hwl:=tM (s.drop i);have hw1:1<=cz (s.drop i):=by rw[hdr,cz,aD F];omega
    rw[<-hdr]at V;have htl:=Fz (s.drop i);rw[gn]at hwl;have hdd:∀w,(s.drop i).drop w=s.drop (i+w):=fun w=>by rw[List.drop_drop]
    rw[hdd]at V;obtain⟨W,hwn⟩:∃W,cz (s.drop i)=W:=⟨_,rfl⟩;rw[hwn]at V hwl hw1 htl;have hsl:ef prog 9 (.ad s) (some (.int .i64 (i:Int))) (some (.int .i64 ((i+W:Nat):Int)))=some (.ad ((s.drop i).take W)):=Fw underlying9 aa;generalize (s.drop i).take W=A at *;have htx:¬(A=[]):=fun e=>by rw[e]at htl;simp at htl;omega
    have e6:IntKind.wrap .i64 ((i:Int)+W)=((i+W:Nat):Int):=dl;by_cases hlc:eG c.toNat=true
    .have hdc:dQ c.toNat=false:=by
      simp only[eG,dQ,fZ,cI,dE,Bool.and_eq_false_iff,oH]at hlc⊢;omega
     rw[aw (by rw[hdc];decide)]at V;split at V
     .cases V
     rename_i h16;have c16:¬((16:Int)<IntKind.wrap .i64 (((i+W:Nat):Int)-i)):=dl;have gh0:=@ur;repeat' (first
      |(apply ai ?_;clear hK K)|apply Ry.o ?_|apply aY ?_|(apply bu ?_;first|refine Rx.k (kl _ _) ?_|refine Rx.k (kd _ _) ?_)|apply dw ?_|(apply a6 (fun L U=>?_) (fun L U=>?_)<;>try(cases L;done))|(apply aE (fun C Z=>?_) (fun C Z=>?_)<;>try(cases C;done))|apply ag ?_|(apply ah fun K hK=>?_)|apply au ?_|apply aj ?_|apply aq ?_|apply aB ?_)
     generalize O:(Y.alloc _).set Y.next _=Hc
     have nc:Y.next+1<=Hc.next:=by rw[<-O];exact aA _
     have gc:Hc.get Y.next=some (.cells [.int .i64 3,.ad [],.int .i64 (i:Int)] 0 true):=by rw[<-O,a0,aD rfl]
     have oc:∀k,k<Y.next->Hc.get k=Y.get k:=fun k hk=>xX
     clear O;refine oB (Q:=fun x E H=>x=AX.exit 4/\Hc=H/\E.at 0=.ad s/\E.at 3=.ptr 0 0/\E.at 4=lv/\E.at 5=.int .i64 (i:Int)/\E.at 6=.int .u8 (c.toNat:Int)/\E.at 7=.ptr Y.next 0/\E.at 8=.int .i64 ((i+W:Nat):Int)) ?_ (j7 (fun j E H=>Hc=H/\E.at 0=.ad s/\E.at 3=.ptr 0 0/\E.at 4=lv/\E.at 5=.int .i64 (i:Int)/\E.at 6=.int .u8 (c.toNat:Int)/\E.at 7=.ptr Y.next 0/\E.at 8=.int .i64 ((i+j:Nat):Int)/\W=j+cz (s.drop (i+j))) (s.length-i) ?_ ⟨rfl,eE,eE,eE,eE,eE,eE,Eq.trans (b:=AV.int .i64 (i:Int)) eE (by rw[iJ]),xT⟩);rotate_left
     .rintro j E4 H4 hj ⟨rfl,fw,gi,k4',k5',lT,jf,k8,hJ⟩;by_cases hlj:i+j<s.length
      .have hlj':((i+j:Nat):Int)<(s.length:Int):=by omega
       have hgy:s[i+j]?=some s[i+j]:=bq hlj;rw[il hlj,cz]at hJ;generalize s[i+j]=d at *;have e5:IntKind.wrap .i64 (((i+j:Nat):Int)+1)=((i+(j+1):Nat):Int):=dl;by_cases hld:eG d.toNat=true
       .rw[aD (by unfold el;rw[hld];rfl)]at hJ;repeat' (first
         |(apply ai ?_;clear hK K)|apply Ry.o ?_|apply aY ?_|(apply bu ?_;first|refine Rx.k (kl _ _) ?_|refine Rx.k (kd _ _) ?_)|apply dw ?_|(apply a6 (fun L U=>?_) (fun L U=>?_)<;>try(cases L;done))|(apply aE (fun C Z=>?_) (fun C Z=>?_)<;>try(cases C;done))|apply ag ?_|(apply ah fun K hK=>?_)|apply au ?_|apply aj ?_|apply aq ?_|apply aB ?_)
        exact⟨aa,rfl,eE,eE,eE,eE,eE,eE,eE,rX⟩
       .have hld':eG d.toNat=false:=by simpa using hld
        by_cases hdd:dQ d.toNat=true
        .rw[aD (by unfold el;rw[hdd,rY])]at hJ;repeat' (first
          |(apply ai ?_;clear hK K)|apply Ry.o ?_|apply aY ?_|(apply bu ?_;first|refine Rx.k (kl _ _) ?_|refine Rx.k (kd _ _) ?_)|apply dw ?_|(apply a6 (fun L U=>?_) (fun L U=>?_)<;>try(cases L;done))|(apply aE (fun C Z=>?_) (fun C Z=>?_)<;>try(cases C;done))|apply ag ?_|(apply ah fun K hK=>?_)|apply au ?_|apply aj ?_|apply aq ?_|apply aB ?_)
         exact⟨aa,rfl,eE,eE,eE,eE,eE,eE,eE,rX⟩
        .have hdd':dQ d.toNat=false:=by simpa using hdd
         rw[aw (by unfold el;rw[hld',hdd'];decide)]at hJ;obtain rfl:W=j:=aa;clear hJ;repeat' (first
          |(apply ai ?_;clear hK K)|apply Ry.o ?_|apply aY ?_|(apply bu ?_;first|refine Rx.k (kl _ _) ?_|refine Rx.k (kd _ _) ?_)|apply dw ?_|(apply a6 (fun L U=>?_) (fun L U=>?_)<;>try(cases L;done))|(apply aE (fun C Z=>?_) (fun C Z=>?_)<;>try(cases C;done))|apply ag ?_|(apply ah fun K hK=>?_)|apply au ?_|apply aj ?_|apply aq ?_|apply aB ?_)
         exact⟨trivial,trivial,eE,eE,eE,eE,eE,eE,eE⟩
      .have hlj':¬((i+j:Nat):Int)<(s.length:Int):=by omega
       rw[ug aa]at hJ;simp only[cz,iJ]at hJ;obtain rfl:W=j:=hJ;repeat' (first
        |(apply ai ?_;clear hK K)|apply Ry.o ?_|apply aY ?_|(apply bu ?_;first|refine Rx.k (kl _ _) ?_|refine Rx.k (kd _ _) ?_)|apply dw ?_|(apply a6 (fun L U=>?_) (fun L U=>?_)<;>try(cases L;done))|(apply aE (fun C Z=>?_) (fun C Z=>?_)<;>try(cases C;done))|apply ag ?_|(apply ah fun K hK=>?_)|apply au ?_|apply aj ?_|apply aq ?_|apply aB ?_)
       exact⟨trivial,trivial,eE,eE,eE,eE,eE,eE,eE⟩
     rintro x E3 H3 ⟨rfl,rfl,fw,gi,k4',k5',lT,jf,k8⟩;have gc0:Hc.get 0=some qd:=(oc 0 aa).trans g0;have gh0:=@oV;repeat' (first
      |(apply ai ?_;clear hK K)|apply Ry.o ?_|apply aY ?_|(apply bu ?_;first|refine Rx.k (kl _ _) ?_|refine Rx.k (kd _ _) ?_)|apply dw ?_|(apply a6 (fun L U=>?_) (fun L U=>?_)<;>try(cases L;done))|(apply aE (fun C Z=>?_) (fun C Z=>?_)<;>try(cases C;done))|apply ag ?_|(apply ah fun K hK=>?_)|apply au ?_|apply aj ?_|apply aq ?_|apply aB ?_)
     generalize J:Hp.set _ Y.next (.cells [.int .i64 1,.ad A,.int .i64 (i:Int)] 0 true)=Hd
     have nd:Y.next+1<=Hd.next:=by rw[<-J];exact nc
     have gd:Hd.get Y.next=some (.cells [.int .i64 1,.ad A,.int .i64 (i:Int)] 0 true):=oM
     have od:∀k,k<Y.next->Hd.get k=Y.get k:=fun k hk=>Eq.trans (b:=Hc.get k) uc (oc k hk)
     clear J;have hldT:dq prog Hd 116 (.ptr Y.next 0)=some (.agg [.int .i64 1,.ad A,.int .i64 (i:Int)]):=tY;obtain⟨H6,ee,n6,o6,own6⟩:=us (H:=Hd) (S.az (fun _ _ h=>h) aa fun k _ hk=>od k hk) aa ⟨1,A,i⟩ aa;simp only[]at ee;have I:∀k,k=0\/k=Y.next->∀o m' z',lv≠.sl k o m' z':=fun k hk o m' z' e=>by
      rcases S with⟨h1,_⟩|⟨q',im,rows,h1,h2,h3,_⟩
      .rw[h1]at e;cases e
      .rw[h1]at e;simp only[AV.sl.injEq]at e;omega
     have g60:H6.get 0=some qd:=ud;have g6t:H6.get Y.next=some (.cells [.int .i64 1,.ad A,.int .i64 (i:Int)] 0 true):=(o6 Y.next aa (I _ (.inr rfl))).trans gd
     have gh0:=@oV;repeat' (first
      |(apply ai ?_;clear hK K)|apply Ry.o ?_|apply aY ?_|apply dw ?_|(apply a6 (fun L U=>?_) (fun L U=>?_)<;>try(cases L;done))|(apply aE (fun C Z=>?_) (fun C Z=>?_)<;>try(cases C;done))|apply ag ?_|(apply ah fun K hK=>?_)|apply au ?_|apply aj ?_|apply aq ?_|apply aB ?_)
     have hnx:1<=H6.next:=aa
     obtain⟨kB,h3,rfl⟩:=dC.1 V;exact⟨cj,fun r hr=>tZ,hnx,s.length-(i+W),aa,i+W,db++[⟨1,A,i⟩],kB,_,n',rfl,aa,ua,eE,eE,own6,h3,ub⟩
    .have hlc':eG c.toNat=false:=by simpa using hlc
     have hdc:dQ c.toNat=true:=by
      unfold el at F;rw[hlc',nY]at F;exact F
     rw[aD hdc]at V;obtain⟨v,hv1,V⟩:=aX.1 V;have hv2:v=co A:=by
      unfold gR at hv1;split at hv1
      .simpa using hv1.symm
      .cases hv1
     have hvm:co A<=9223372036854775808:=(uk (by rw[hv1];rfl)).2.2.2.2;have hnu:oR ⟨A,9223372036854775808⟩:=⟨by rw[hv1];rfl,hvm,by show 9223372036854775808<2^64;decide⟩;have dp:∀H:Hp,aL prog (a1 pls gY) 54 [.ad A,.int .u64 9223372036854775808] H fun v H'=>v=.aC [.int .u64 (co A:Int),.bool true]/\H'=H:=fun H=>uo (tb:=gY) (fun _=>rfl) hnu H;have gh0:=@ur;repeat' (first
      |(apply ai ?_;clear hK K)|apply Ry.o ?_|apply aY ?_|(apply bu ?_;first|refine Rx.k (kl _ _) ?_|refine Rx.k (kd _ _) ?_)|apply dw ?_|(apply a6 (fun L U=>?_) (fun L U=>?_)<;>try(cases L;done))|(apply aE (fun C Z=>?_) (fun C Z=>?_)<;>try(cases C;done))|apply ag ?_|(apply ah fun K hK=>?_)|apply au ?_|apply aj ?_|apply aq ?_|apply aB ?_)
     generalize O:(Y.alloc _).set Y.next _=Hc
     have nc:Y.next+1<=Hc.next:=by rw[<-O];exact aA _
     have gc:Hc.get Y.next=some (.cells [.int .i64 3,.ad [],.int .i64 (i:Int)] 0 true):=by rw[<-O,a0,aD rfl]
     have oc:∀k,k<Y.next->Hc.get k=Y.get k:=fun k hk=>xX
     clear O;refine oB (Q:=fun x E H=>x=AX.exit 4/\Hc=H/\E.at 0=.ad s/\E.at 3=.ptr 0 0/\E.at 4=lv/\E.at 5=.int .i64 (i:Int)/\E.at 6=.int .u8 (c.toNat:Int)/\E.at 7=.ptr Y.next 0/\E.at 8=.int .i64 ((i+W:Nat):Int)) ?_ (j7 (fun j E H=>Hc=H/\E.at 0=.ad s/\E.at 3=.ptr 0 0/\E.at 4=lv/\E.at 5=.int .i64 (i:Int)/\E.at 6=.int .u8 (c.toNat:Int)/\E.at 7=.ptr Y.next 0/\E.at 8=.int .i64 ((i+j:Nat):Int)/\W=j+cz (s.drop (i+j))) (s.length-i) ?_ ⟨rfl,eE,eE,eE,eE,eE,eE,Eq.trans (b:=AV.int .i64 (i:Int)) eE (by rw[iJ]),xT⟩);rotate_left
     .rintro j E4 H4 hj ⟨rfl,fw,gi,k4',k5',lT,jf,k8,hJ⟩;by_cases hlj:i+j<s.length
      .have hlj':((i+j:Nat):Int)<(s.length:Int):=by omega
       have hgy:s[i+j]?=some s[i+j]:=bq hlj;rw[il hlj,cz]at hJ;generalize s[i+j]=d at *;have e5:IntKind.wrap .i64 (((i+j:Nat):Int)+1)=((i+(j+1):Nat):Int):=dl;by_cases hld:eG d.toNat=true
       .rw[aD (by unfold el;rw[hld];rfl)]at hJ;repeat' (first
         |(apply ai ?_;clear hK K)|apply Ry.o ?_|apply aY ?_|(apply bu ?_;first|refine Rx.k (kl _ _) ?_|refine Rx.k (kd _ _) ?_)|apply dw ?_|(apply a6 (fun L U=>?_) (fun L U=>?_)<;>try(cases L;done))|(apply aE (fun C Z=>?_) (fun C Z=>?_)<;>try(cases C;done))|apply ag ?_|(apply ah fun K hK=>?_)|apply au ?_|apply aj ?_|apply aq ?_|apply aB ?_)
        exact⟨aa,rfl,eE,eE,eE,eE,eE,eE,eE,rX⟩
       .have hld':eG d.toNat=false:=by simpa using hld
        by_cases hdd:dQ d.toNat=true
        .rw[aD (by unfold el;rw[hdd,rY])]at hJ;repeat' (first
          |(apply ai ?_;clear hK K)|apply Ry.o ?_|apply aY ?_|(apply bu ?_;first|refine Rx.k (kl _ _) ?_|refine Rx.k (kd _ _) ?_)|apply dw ?_|(apply a6 (fun L U=>?_) (fun L U=>?_)<;>try(cases L;done))|(apply aE (fun C Z=>?_) (fun C Z=>?_)<;>try(cases C;done))|apply ag ?_|(apply ah fun K hK=>?_)|apply au ?_|apply aj ?_|apply aq ?_|apply aB ?_)
         exact⟨aa,rfl,eE,eE,eE,eE,eE,eE,eE,rX⟩
        .have hdd':dQ d.toNat=false:=by simpa using hdd
         rw[aw (by unfold el;rw[hld',hdd'];decide)]at hJ;obtain rfl:W=j:=aa;clear hJ;repeat' (first
          |(apply ai ?_;clear hK K)|apply Ry.o ?_|apply aY ?_|(apply bu ?_;first|refine Rx.k (kl _ _) ?_|refine Rx.k (kd _ _) ?_)|apply dw ?_|(apply a6 (fun L U=>?_) (fun L U=>?_)<;>try(cases L;done))|(apply aE (fun C Z=>?_) (fun C Z=>?_)<;>try(cases C;done))|apply ag ?_|(apply ah fun K hK=>?_)|apply au ?_|apply aj ?_|apply aq ?_|apply aB ?_)
         exact⟨trivial,trivial,eE,eE,eE,eE,eE,eE,eE⟩
      .have hlj':¬((i+j:Nat):Int)<(s.length:Int):=by omega
       rw[ug aa]at hJ;simp only[cz,iJ]at hJ;obtain rfl:W=j:=hJ;repeat' (first
        |(apply ai ?_;clear hK K)|apply Ry.o ?_|apply aY ?_|(apply bu ?_;first|refine Rx.k (kl _ _) ?_|refine Rx.k (kd _ _) ?_)|apply dw ?_|(apply a6 (fun L U=>?_) (fun L U=>?_)<;>try(cases L;done))|(apply aE (fun C Z=>?_) (fun C Z=>?_)<;>try(cases C;done))|apply ag ?_|(apply ah fun K hK=>?_)|apply au ?_|apply aj ?_|apply aq ?_|apply aB ?_)
       exact⟨trivial,trivial,eE,eE,eE,eE,eE,eE,eE⟩
     rintro x E3 H3 ⟨rfl,rfl,fw,gi,k4',k5',lT,jf,k8⟩;have gc0:Hc.get 0=some qd:=(oc 0 aa).trans g0;have gh0:=@oV;have gh1:=@oT;have gh2:=@oU;repeat' (first
      |(apply ai ?_;clear hK K)|apply Ry.o ?_|apply aY ?_|(apply bu ?_;first|refine Rx.k (kl _ _) ?_|refine Rx.k (kd _ _) ?_|refine Rx.k (dp _) ?_)|apply dw ?_|(apply a6 (fun L U=>?_) (fun L U=>?_)<;>try(cases L;done))|(apply aE (fun C Z=>?_) (fun C Z=>?_)<;>try(cases C;done))|apply ag ?_|(apply ah fun K hK=>?_)|apply au ?_|apply aj ?_|apply aq ?_|apply aB ?_)
     generalize J:Hp.set _ Y.next (.cells [.int .i64 2,.ad A,.int .i64 (i:Int)] 0 true)=Hd
     have nd:Y.next+1<=Hd.next:=by rw[<-J];exact nc
     have gd:Hd.get Y.next=some (.cells [.int .i64 2,.ad A,.int .i64 (i:Int)] 0 true):=oM
     have od:∀k,k<Y.next->Hd.get k=Y.get k:=fun k hk=>Eq.trans (b:=Hc.get k) uc (oc k hk)
     clear J;have hldT:dq prog Hd 116 (.ptr Y.next 0)=some (.agg [.int .i64 2,.ad A,.int .i64 (i:Int)]):=tY;obtain⟨H6,ee,n6,o6,own6⟩:=us (H:=Hd) (S.az (fun _ _ h=>h) aa fun k _ hk=>od k hk) aa ⟨2,A,i⟩ aa;simp only[]at ee;have I:∀k,k=0\/k=Y.next->∀o m' z',lv≠.sl k o m' z':=fun k hk o m' z' e=>by
      rcases S with⟨h1,_⟩|⟨q',im,rows,h1,h2,h3,_⟩
      .rw[h1]at e;cases e
      .rw[h1]at e;simp only[AV.sl.injEq]at e;omega
     have g60:H6.get 0=some qd:=ud;have g6t:H6.get Y.next=some (.cells [.int .i64 2,.ad A,.int .i64 (i:Int)] 0 true):=(o6 Y.next aa (I _ (.inr rfl))).trans gd
     have gh0:=@oV;repeat' (first
      |(apply ai ?_;clear hK K)|apply Ry.o ?_|apply aY ?_|apply dw ?_|(apply a6 (fun L U=>?_) (fun L U=>?_)<;>try(cases L;done))|(apply aE (fun C Z=>?_) (fun C Z=>?_)<;>try(cases C;done))|apply ag ?_|(apply ah fun K hK=>?_)|apply au ?_|apply aj ?_|apply aq ?_|apply aB ?_)
     have hnx:1<=H6.next:=aa
     obtain⟨kB,h3,rfl⟩:=dC.1 V;exact⟨cj,fun r hr=>tZ,hnx,s.length-(i+W),aa,i+W,db++[⟨2,A,i⟩],kB,_,n',rfl,aa,ua,eE,eE,own6,h3,ub⟩
   .rw[aw F]at V;obtain⟨t,ht,V⟩:=aX.1 V;have hlc:eG c.toNat=false:=by
     unfold el at F;simp only[fZ,not_or,Bool.not_eq_true]at F;exact F.1
    have hdc:dQ c.toNat=false:=by
     unfold el at F;simp only[fZ,not_or,Bool.not_eq_true]at F;exact F.2
    have hsl:ef prog 9 (.ad s) (some (.int .i64 (i:Int))) none=some (.ad (s.drop i)):=CJ underlying9 aa;have hsy:oS (s.drop i):=⟨t,by rw[hdr];exact ht⟩;have htt:t=(s.drop i).take 1:=by rw[hdr];exact(ym ht).2.1
    have htl:((s.drop i).take 1).length=1:=vW;have dp:∀H:Hp,aL prog (a1 pls gY) 55 [.ad (s.drop i)] H fun v H'=>v=.ad ((s.drop i).take 1)/\H'=H:=fun H=>Fv (tb:=gY) (fun _=>rfl) hsy H;rw[htt]at V;generalize (s.drop i).take 1=A at *;have htx:¬(A=[]):=fun e=>by rw[e]at htl;simp at htl
    obtain⟨W,hwn⟩:∃W:Nat,W=1:=⟨1,rfl⟩;rw[show i+1=i+W by rw[hwn]]at V;rw[<-hwn]at htl;have e6:IntKind.wrap .i64 ((i:Int)+W)=((i+W:Nat):Int):=dl;have hwl:W<=s.length-i:=aa;have hw1:1<=W:=aa;clear e5 hdr hwn;have gh0:=@ur;repeat' (first
     |(apply ai ?_;clear hK K)|apply Ry.o ?_|apply aY ?_|(apply bu ?_;first|refine Rx.k (kl _ _) ?_|refine Rx.k (kd _ _) ?_|refine Rx.k (dp _) ?_)|apply dw ?_|(apply a6 (fun L U=>?_) (fun L U=>?_)<;>try(cases L;done))|(apply aE (fun C Z=>?_) (fun C Z=>?_)<;>try(cases C;done))|apply ag ?_|(apply ah fun K hK=>?_)|apply au ?_|apply aj ?_|apply aq ?_|apply aB ?_)
    obtain⟨Hc,O⟩:∃Hc,Hc=Y.alloc (.cells [.int .i64 0,.ad [],.int .i64 0] 0 true):=⟨_,rfl⟩;have nc:Y.next+1<=Hc.next:=by rw[O];exact aA _
    have oc:∀k,k<Y.next->Hc.get k=Y.get k:=fun k hk=>by rw[O,aP,aw aa]
    rw[<-O];clear O;generalize J:Hp.set _ Y.next (.cells [.int .i64 3,.ad A,.int .i64 (i:Int)] 0 true)=Hd
    have nd:Y.next+1<=Hd.next:=by rw[<-J];exact nc
    have gd:Hd.get Y.next=some (.cells [.int .i64 3,.ad A,.int .i64 (i:Int)] 0 true):=oM
    have od:∀k,k<Y.next->Hd.get k=Y.get k:=fun k hk=>Eq.trans (b:=Hc.get k) uc (oc k hk)
    clear J;have hldT:dq prog Hd 116 (.ptr Y.next 0)=some (.agg [.int .i64 3,.ad A,.int .i64 (i:Int)]):=tY;obtain⟨H6,ee,n6,o6,own6⟩:=us (H:=Hd) (S.az (fun _ _ h=>h) aa fun k _ hk=>od k hk) aa ⟨3,A,i⟩ aa;simp only[]at ee;have I:∀k,k=0\/k=Y.next->∀o m' z',lv≠.sl k o m' z':=fun k hk o m' z' e=>by
     rcases S with⟨h1,_⟩|⟨q',im,rows,h1,h2,h3,_⟩
     .rw[h1]at e;cases e
     .rw[h1]at e;simp only[AV.sl.injEq]at e;omega
    have g60:H6.get 0=some qd:=ud;have g6t:H6.get Y.next=some (.cells [.int .i64 3,.ad A,.int .i64 (i:Int)] 0 true):=(o6 Y.next aa (I _ (.inr rfl))).trans gd
    have gh0:=@oV;repeat' (first
     |(apply ai ?_;clear hK K)|apply Ry.o ?_|apply aY ?_|apply dw ?_|(apply a6 (fun L U=>?_) (fun L U=>?_)<;>try(cases L;done))|(apply aE (fun C Z=>?_) (fun C Z=>?_)<;>try(cases C;done))|apply ag ?_|(apply ah fun K hK=>?_)|apply au ?_|apply aj ?_|apply aq ?_|apply aB ?_)
    have hnx:1<=H6.next:=aa
    obtain⟨kB,h3,rfl⟩:=dC.1 V;exact⟨cj,fun r hr=>tZ,hnx,s.length-(i+W),aa,i+W,db++[⟨3,A,i⟩],kB,_,n',rfl,aa,ua,eE,eE,own6,h3,ub⟩
 .have hlt':¬(i:Int)<s.length:=by omega
  have hi2:s.drop i=[]:=ug aa;rw[hi2]at V;have h2:cU=[]:=by
   cases n' with
   |zero=>cases V
   |succ n'=>unfold ge at V;simpa using V.symm
  subst h2;rw[jo]at hl;subst hl;have gh0:=@yn;repeat' (first
   |(apply ai ?_;clear hK K)|apply Ry.o ?_|apply aY ?_|apply dw ?_|(apply a6 (fun L U=>?_) (fun L U=>?_)<;>try(cases L;done))|(apply aE (fun C Z=>?_) (fun C Z=>?_)<;>try(cases C;done))|apply ag ?_|(apply ah fun K hK=>?_)|apply au ?_|apply aj ?_|apply aq ?_|apply aB ?_)
  have hld:dq prog (Y.set 0 qd) 44 (.ptr 0 0)=some (.agg [.int .i64 0,.int .i64 0]):=by
   rw[rA,a0,aD rfl];kernel_rfl
  refine⟨aN,_,(by(try simp only[a2,bG,Nat.reduceBEq,Nat.reduceAdd,Nat.reduceLeDiff,tyF,cu,cG,hld, *]);first|done|with_reducible rfl),?_⟩;try simp only[aM]
  exact⟨lv,rfl,S.az (fun _ _ h=>h) (aA _) fun k hk _=>ue⟩
end
end Go.Proofs.Ytbflaciihaijgaa
