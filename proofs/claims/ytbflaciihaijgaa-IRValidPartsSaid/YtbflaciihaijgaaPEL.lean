/- Lemmas for the last file. -/
import Derived.Test.YtbflaciihaijgaaPEK
set_option linter.all false
set_option maxHeartbeats 32000000
namespace Go.Proofs.Ytbflaciihaijgaa
set_option maxRecDepth 20000
open Go Go.Ab Proofs.Try
variable{l:qA}
def tyP4a.tyF:=ad @ez (ad @cR (ad @dt (ad @fb (ad @eA (ad @vz (@K4))))))
open tyP4a
noncomputable def O5:{c:SC // aI 27 (f124.body.getD .skip)=c}:=by
 refine⟨?_,?_⟩;rotate_left
 .simp only[f124,bS,aI,bM,bI,bT,bU,Nat.blt,Nat.ble];rfl
noncomputable def O6:{c:SC // aI 87 (f88.body.getD .skip)=c}:=by
 refine⟨?_,?_⟩;rotate_left
 .simp only[f88,bS,aI,bM,bI,bT,bU,Nat.blt,Nat.ble];rfl
noncomputable def DJ:{c:SC // aI 10 (f126.body.getD .skip)=c}:=by
 refine⟨?_,?_⟩;rotate_left
 .simp only[f126,bS,aI,bM,bI,bT,bU,Nat.blt,Nat.ble];rfl
theorem zcj(h:∀f,f∈[158,155,153,141,156,154,142,122]->(∀C,cV l f C=none)/\iL l f=false):zd6 (aH pls l) where
 let_:=dG (h _ az).1 (h _ az).2
 dig:=dG (h _ az).1 (h _ az).2
 d5:=dG (h _ az).1 (h _ az).2
 dv:=dG (h _ az).1 (h _ az).2
 num:=dG (h _ az).1 (h _ az).2
 cj:=dG (h _ az).1 (h _ az).2
 cT:=dG (h _ az).1 (h _ az).2
 scan:=dG (h _ az).1 (h _ az).2
 bF _:=by first|rfl|kernel_rfl
 keep:=rfl
def HY:zd6 (aH pls []):=zcj fun f _=>⟨fun _=>rfl,rfl⟩
variable(ρ:Nat->Int)
def zck(s:qw)(M:s.length<2^60):bX prog ρ 85 [.ai s] (.bool (cZ s)):=
 eg fit (pls:=pls) (l:=[]) trivial (.cons (.ai _) .nil) (.bool _) (bb (fun v H h=>h.1) (HX HY (fj _) s M bY))
def zcl(x:Int×Nat):bX prog ρ 123 [.int .i64 x.1,.int .i64 x.2] (.bool (uF x.1 x.2)):=
 eg fit (pls:=pls) (l:=[]) trivial (.cons (.int _ _) (.cons (.int _ _) .nil)) (.bool _) (bb (fun v H h=>h.1) (zcf (fj _) x.1 x.2 bY))
def zcm(x:Ex):bX prog ρ 143 [.agg x.cells] (.bool (zeroE x)):=
 eg fit (pls:=pls) (l:=[]) trivial (.cons (.agg x.pure) .nil) (.bool _) (bb (fun v H h=>h.1) (zcg (fj _) x bY))
def zcn(l:qt)(K:dU l<2^60):bX prog ρ 86 [cM l] (.bool (l.all cZ)):=
 eg fit (pls:=pls) (l:=[]) trivial (.cons (tS _) .nil) (.bool _) (bb (fun v H h=>h.1) (zci HY (fj _) (fj _) l K bY))
def zco(s:qw)(w:Bool)(M:s.length<2^60):bX prog ρ 125 [.ai s,.bool w] (.bool (nT s w)):=
 eg fit (pls:=pls) (l:=[]) trivial (.cons (.ai _) (.cons (.bool _) .nil)) (.bool _) (bb (fun v H h=>h.1) (zch HY (fj _) (fj _) s w M bY))
def wz(k:Int):qO:=
 if k=1 then [true,false,false,false,true,false,false,false]
 else if k=2 then [true,false,false,true,true,false,false,false]
 else if k=3 then [false,false,false,false,true,false,true,true]
 else if k=4 then [false,false,false,false,true,false,true,false]
 else if k=5 then [false,false,false,false,true,false,false,false]
 else if k=6 then [true,true,false,false,false,true,false,false]
 else if k=7 then [false,false,true,false,false,false,false,false]
 else [false,false,false,false,false,false,false,false]
def lw(k:Int):Bool:=decide (1<=k)&&decide (k<=7)
def xV(k:Int):AV:=.aS [.agg ((wz k).map .bool),.bool (lw k)]
theorem zcp(a b c d e f g h:AV):cQ 8 [a,b,c,d,e,f,g,h]=some (.agg [a,b,c,d,e,f,g,h]):=rfl
theorem zcq(k:Int):bX prog ρ 124 [.int .i64 k] (xV k):=eg fit (pls:=pls) (l:=[]) trivial (.cons (.int _ _) .nil) (.aS (.cons (.agg fun v V=>by
 obtain⟨b,_,rfl⟩:=nh.1 V;exact .bool b) (.cons (.bool _) .nil))) (by
 have L:=fj 124;have m:dK prog 174 [(0,.bool true),(4,.bool true)]=some (.agg [.bool true,.bool false,.bool false,.bool false,.bool true,.bool false,.bool false,.bool false]):=aG;have i:dK prog 174 [(0,.bool true),(3,.bool true),(4,.bool true)]=some (.agg [.bool true,.bool false,.bool false,.bool true,.bool true,.bool false,.bool false,.bool false]):=aG;have U:dK prog 174 [(4,.bool true),(6,.bool true),(7,.bool true)]=some (.agg [.bool false,.bool false,.bool false,.bool false,.bool true,.bool false,.bool true,.bool true]):=aG;have Z:dK prog 174 [(4,.bool true),(6,.bool true)]=some (.agg [.bool false,.bool false,.bool false,.bool false,.bool true,.bool false,.bool true,.bool false]):=aG;have Y:dK prog 174 [(4,.bool true)]=some (.agg [.bool false,.bool false,.bool false,.bool false,.bool true,.bool false,.bool false,.bool false]):=aG;have O:dK prog 174 [(0,.bool true),(1,.bool true),(5,.bool true)]=some (.agg [.bool true,.bool true,.bool false,.bool false,.bool false,.bool true,.bool false,.bool false]):=aG;have J:dK prog 174 [(2,.bool true)]=some (.agg [.bool false,.bool false,.bool true,.bool false,.bool false,.bool false,.bool false,.bool false]):=aG;have z:dK prog 174 []=some (.agg [.bool false,.bool false,.bool false,.bool false,.bool false,.bool false,.bool false,.bool false]):=aG;refine bF (M:=27) (rs:=[.cell 2 174,.tmp 3]) (L.call _) L.aD L.aq func124 rfl rfl O5.2 rfl ?_;dsimp only[O5,bA,Nat.reduceAdd];repeat' (first
  |(apply aj ?_;clear hK K)|apply Rx.o ?_|apply aE ?_|(apply aA (fun o g=>?_) (fun o g=>?_)<;>try(cases o;done))|apply ah ?_|(apply ai fun K hK=>?_)|apply ak ?_|apply am ?_|apply aq ?_)
 all_goals
  refine⟨aD,_,(by(try simp only[aF,aW,Nat.reduceBEq,Nat.reduceAdd,Nat.reduceLeDiff,tyF,eh,eM,zcp, *]);first|done|with_reducible rfl),?_⟩;try simp only[aC]
 all_goals
  first
  |(simp_all[xV,wz,lw];done)
  |(have I:lw k=false:=by
     simp only[lw,xz,lH];omega
    simp_all[xV,wz];done))
theorem zcr(k:Int)(n:Nat):uF k n=((decide ((n:Int)=2)&&py k)||(decide ((n:Int)=1)&&(decide (k=20)||decide (k=21)))):=by
 unfold uF py;by_cases h:k=20\/k=21
 .rw[ay h];rcases h with rfl|rfl<;>simp
 .rw[af h];have i:¬k=20:=fun e=>h (.inl e);have g:¬k=21:=fun e=>h (.inr e);simp only[i,g,j7,pe,sG];cases decide (4<=k)<;>cases decide (k<=18)<;>cases decide ((n:Int)=2)<;>rfl
noncomputable def Ah:En:=⟨85,false,ch (fun s=>s.length<2^60) nJ fun s=>.bool (cZ s)⟩
def O7:cT prog ρ Ah:=dg fun x I=>zck ρ x I
def Ai(x:Int×Nat):qs:=[.int .i64 x.1,.int .i64 x.2]
def zcs(x y:Int×Nat)(h:Ai x=Ai y):x=y:=by
 simp only[Ai,dR,AV.int.injEq,px]at h;exact pw h.1 ac
noncomputable def Ak:En:=⟨123,false,ch (fun _=>True) Ai fun x=>.bool (uF x.1 x.2)⟩
def O8:cT prog ρ Ak:=dg fun x _=>zcl ρ x
noncomputable def O9:En:=⟨143,false,ch (fun _=>True) ju fun x=>.bool (zeroE x)⟩
def zct:cT prog ρ O9:=dg fun x _=>zcm ρ x
def zcu(O:∀o,cV l 85 o=Ah.sp o)(C:∀o,cV l 123 o=Ak.sp o)(V:(∀o,cV l 88 o=none)/\iL l 88=false){base:Nat}{I:Hp->Prop}(z:uE base I):
 xR (aH pls l) base I 88 [] fun x _=>md x:=by
 intro x d H hz Z m;have L:zd0 (aH pls l) 88:=dG V.1 V.2;have j:∀s:qw,s.length<2^60->∀H,aY prog (aH pls l) 85 [.ai s] H fun v H'=>v=.bool (cZ s)/\H'=H:=fun s i H=>cF (enc:=nJ) (out:=fun x=>.bool (cZ x)) vL (x:=s) (O _) i;have ko:∀(k:Int) (n:Nat),∀H,aY prog (aH pls l) 123 [.int .i64 k,.int .i64 n] H fun v H'=>v=.bool (uF k n)/\H'=H:=fun k n H=>cF (enc:=Ai) (out:=fun x=>.bool (uF x.1 x.2)) zcs (x:=(k,n)) (C _) trivial;have hsz:=x.aM;refine bF (M:=87) (rs:=[.tmp 4]) (L.call _) L.aD L.aq func88 rfl rfl O6.2 rfl ?_;dsimp only[O6,bA,Nat.reduceAdd];repeat' (first
  |(apply aj ?_;clear hK K)|apply Rx.o ?_|(apply eC ?_;first|refine bi (j _ ac _) ?_|refine bi (ko _ _ _) ?_)|(apply aX (fun J g=>?_) (fun J g=>?_)<;>try(cases J;done))|(apply aA (fun U Y=>?_) (fun U Y=>?_)<;>try(cases U;done))|apply ah ?_|(apply ai fun K hK=>?_)|apply ak ?_|apply am ?_|apply aq ?_)
 all_goals
  all_goals refine qq ?_
  refine⟨?_,(jc _ _).alloc _,z _ _ m ((pV _ _).alloc Z _)⟩;rw[md];(try rw[zcr]);(try simp only[ci]at *);simp only[ *,cj,bC,bH,Int.reduceEq]
end Go.Proofs.Ytbflaciihaijgaa
