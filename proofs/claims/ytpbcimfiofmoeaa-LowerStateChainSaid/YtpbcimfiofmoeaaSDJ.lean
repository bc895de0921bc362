/- Parts: G2, G2r, G2s, G2p, RowN, NdM, LoA, LoB, LoC, LoD, LoE. -/
import Derived.Test.YtpbcimfiofmoeaaSDI
set_option linter.unusedSimpArgs false
set_option linter.unusedVariables false
set_option linter.unusedSectionVars false
set_option linter.defProp false
set_option maxHeartbeats 32000000
namespace Go.Proofs.Ytpbcimfiofmoeaa
set_option maxRecDepth 20000
set_option maxRecDepth 20000
open Go Go.Ab
namespace tyG2
def tyF:=And.intro @tq3 (And.intro @zcV (@tq77))
end tyG2
open tyG2
def RdW (S:Nat→Prop) (n:Nat) (H:Hp) (v w:AV):Prop:=∃ u,Ic S n H v u∧∀ m,n≤m→wkN m u=w
def ym (S:Nat→Prop) (n:Nat) (H:Hp) (cs ws:List AV):Prop:=∃ us,zbf (Ic S n H) cs us∧∀ m,n≤m→us.map (wkN m)=ws
theorem ym.frame {S S':Nat→Prop} (hS:∀ k,S k→S' k) {n:Nat}{H H':Hp}{v w:List AV} (h:ym S n H v w) (hn:H.next≤H'.next) (hf:∀ k,S k→k < H.next→zie (H.get k) (H'.get k)):ym S' n H' v w:=by
 obtain⟨u,h1,h2⟩:=h
 exact⟨u,h1.mono fun a b k=>k.frame hS hn hf,h2⟩
theorem ym.keep {S S':Nat→Prop} (hS:∀ k,S k→S' k) {n:Nat}{H H':Hp}{v w:List AV} (h:ym S n H v w) (hn:H.next≤H'.next) (hf:∀ k,S k→k < H.next→H'.get k=H.get k):ym S' n H' v w:=h.frame hS hn fun k h1 h2=>.inl (hf k h1 h2).symm
theorem RdW.up {S:Nat→Prop}{n m:Nat}{H:Hp}{v w:AV} (h:RdW S n H v w) (hm:n≤m):RdW S m H v w:=by
 obtain⟨u,h1,h2⟩:=h
 exact⟨u,h1.up hm,fun k hk=>h2 k (by omega)⟩
theorem ym.up {S:Nat→Prop}{n m:Nat}{H:Hp}{v w:List AV} (h:ym S n H v w) (hm:n≤m):ym S m H v w:=by
 obtain⟨u,h1,h2⟩:=h
 exact⟨u,h1.mono fun a b k=>k.up hm,fun k hk=>h2 k (by omega)⟩
theorem ym.nil {S:Nat→Prop}{n:Nat}{H:Hp}:ym S n H [] []:=⟨[],trivial,fun _ _=>rfl⟩
theorem ym.cons {S:Nat→Prop}{n:Nat}{H:Hp}{v w:AV}{cs ws:List AV} (h:RdW S n H v w) (k:ym S n H cs ws):ym S n H (v::cs) (w::ws):=by
 obtain⟨u,h1,h2⟩:=h
 obtain⟨us,h3,h4⟩:=k
 exact⟨u::us,⟨h1,h3⟩,fun m hm=>by rw[List.map_cons,h2 m hm,h4 m hm]⟩
theorem ym.append {S:Nat→Prop}{n:Nat}{H:Hp}:∀ {a b c d:List AV},ym S n H a b→ym S n H c d→ym S n H (a++c) (b++d)
 | a,b,c,d,⟨u,h1,h2⟩,⟨v,h3,h4⟩=>⟨u++v,h1.append h3,fun m hm=>by rw[List.map_append,h2 m hm,h4 m hm]⟩
theorem RdW.flat {S:Nat→Prop}{n:Nat}{H:Hp}{v:AV} (h:flatA v) (hk:∀ m,wkN m v=v):RdW S (n+1) H v v:=⟨v,Ic.flat h,fun m _=>hk m⟩
theorem RdW.int {S:Nat→Prop}{n:Nat}{H:Hp} (k:IntKind) (x:Int):RdW S (n+1) H (.int k x) (.int k x):=.flat ⟨.int _ _,trivial⟩ fun m=>by cases m<;>rfl
theorem RdW.str {S:Nat→Prop}{n:Nat}{H:Hp} (s:List UInt8):RdW S (n+1) H (.str s) (.str s):=.flat ⟨.str _,trivial⟩ fun m=>by cases m<;>rfl
theorem RdW.nilS {S:Nat→Prop}{n:Nat}{H:Hp}:RdW S (n+1) H .nilS (.lst []):=⟨.nilS,Ic.flat ⟨.nilS,trivial⟩,fun m hm=>by
 obtain⟨m,rfl⟩:∃ k,m=k+1:=⟨m - 1,by omega⟩
 rfl⟩
def zbS (S:Nat→Prop) (n:Nat) (H:Hp) (z:Nat):List (List AV)→List (List AV)→Prop:=zbf fun a b=>a.length=z∧ym S n H a b
theorem zjA {S:Nat→Prop}{n z:Nat}{H:Hp}:∀ {a b:List (List AV)},zbS S n H z a b→∃ u,zbf (zbf (Ic S n H)) a u∧(∀ m,n≤m→u.map (List.map (wkN m))=b)∧∀ x∈a,x.length=z
 | [],[],_=>⟨[],trivial,fun _ _=>rfl,by simp⟩
 | x::a,y::b,⟨⟨hz,v,h1,h2⟩,h⟩=>by
   obtain⟨u,h3,h4,h5⟩:=zjA (a:=a) (b:=b) h
   exact⟨v::u,⟨h1,h3⟩,fun m hm=>by rw[List.map_cons,h2 m hm,h4 m hm],fun q hq=>by
    rcases List.mem_cons.1 hq with rfl|hq
    ·exact hz
    ·exact h5 q hq⟩
theorem RdW.rows {S:Nat→Prop}{n:Nat}{H:Hp}{r z imm:Nat}{tip:Bool}{a b:List (List AV)} (hS:S r) (hr:r < H.next) (hg:H.get r=some (.cells a.flatten imm tip)) (hi:imm≤a.flatten.length) (h:zbS S n H z a b):RdW S (n+1) H (.sl r 0 a.length z) (.lst b):=by
 obtain⟨u,h1,h2,h3⟩:=zjA h
 refine⟨.lst u,Ic.rows hS hr hg hi h3 h1,fun m hm=>?_⟩
 obtain⟨m,rfl⟩:∃ k,m=k+1:=⟨m - 1,by omega⟩
 show AV.lst (u.map fun row=>row.map (wkN m))=_
 rw[← h2 m (by omega)]
theorem zbS.frame {S S':Nat→Prop} (hS:∀ k,S k→S' k) {n z:Nat}{H H':Hp}{a b:List (List AV)} (h:zbS S n H z a b) (hn:H.next≤H'.next) (hf:∀ k,S k→k < H.next→H'.get k=H.get k):zbS S' n H' z a b:=zbf.mono (fun x y k=>⟨k.1,k.2.keep hS hn hf⟩) h
theorem zbS.up {S:Nat→Prop}{n m z:Nat}{H:Hp}{a b:List (List AV)} (h:zbS S n H z a b) (hm:n≤m):zbS S m H z a b:=zbf.mono (fun x y k=>⟨k.1,k.2.up hm⟩) h
theorem ym.strs {S:Nat→Prop}{n:Nat}{H:Hp} (s:List UInt8):ym S (n+1) H [.str s] [.str s]:=.cons (.str s) .nil
theorem zbS.strs {S:Nat→Prop}{n:Nat}{H:Hp}:∀ l:List (List UInt8),zbS S (n+1) H 1 (l.map fun s=>[AV.str s]) (l.map fun s=>[AV.str s])
 | []=>trivial
 | a::l=>⟨⟨rfl,ym.strs a⟩,zbS.strs l⟩
theorem zfM {S:Nat→Prop}{n:Nat}{H:Hp} (k nn o:Int) (s:List UInt8) {kv:AV}{es:List Ex} (h:RdW S (n+1) H kv (.lst (es.map Ex.cells))):ym S (n+1) H [.int .i64 k,.int .i64 nn,.str s,.int .i64 o,kv] (Ex.mk k nn s o es).cells:=by
 rw[Ex.cells_eq]
 exact .cons (.int _ _) (.cons (.int _ _) (.cons (.str _) (.cons (.int _ _) (.cons h .nil))))
theorem zcA {S:Nat→Prop}{n:Nat}{H:Hp} (k nn o:Int) (s:List UInt8):ym S (n+1) H [.int .i64 k,.int .i64 nn,.str s,.int .i64 o,.nilS] (Ex.mk k nn s o []).cells:=zfM k nn o s .nilS
def zF:List Int→Int×List Int
 | []=>(0,[])
 | a::l=>(a,l)
def SeedV (lo:Nat) (H:Hp) (r:Nat) (v:AV) (L:List Int):Prop:=(v=.lst []∧L=[])∨∃ b off cs imm,v=.sl b off L.length 1∧H.get b=some (.cells cs imm true)∧cs.drop off=L.map (fun n=>AV.int .i64 n)∧b≠r∧b < lo
def zcl (lo:Nat) (H:Hp) (r:Nat) (L:List Int) (c:Int):Prop:=r < lo∧lo≤H.next∧∃ v,H.get r=some (.cells [v,.int .i64 c] 0 true)∧SeedV lo H r v L
theorem zcl.keep {lo:Nat}{H H':Hp}{r:Nat}{L:List Int}{c:Int} (h:zcl lo H r L c) (hn:H.next≤H'.next) (hg:∀ k,k < lo→H'.get k=H.get k):zcl lo H' r L c:=by
 obtain⟨h0,h00,v,h1,h2⟩:=h
 refine⟨h0,by omega,v,by rw[hg _ h0];exact h1,?_⟩
 rcases h2 with h2|⟨b,off,cs,imm,e1,e2,e3,e4,e5⟩
 ·exact .inl h2
 ·exact .inr ⟨b,off,cs,imm,e1,by rw[hg _ e5];exact e2,e3,e4,e5⟩
noncomputable def zm1:{ c:SC // slim 25 (Try.f27.body.getD .skip)=c }:=by
 refine⟨?_,?_⟩
 rotate_left
 ·simp only[Try.f27,Option.getD_some,slim,zZ,zS,z6,z7,Nat.blt,Nat.ble]
  rfl
theorem zhr {cfg:Cfg} (hw:Plain cfg 27) {lo:Nat}{H:Hp}{r:Nat}{L:List Int}{c:Int} (h:zcl lo H r L c) (hL:L.length < 2 ^ 60) :
 zr Try.prog cfg 27 [.ptr r 0] H fun v H'=>v=.int .i64 (zF L).1∧zcl lo H' r (zF L).2 c∧H'.next=H.next∧∀ k,k≠r→H'.get k=H.get k:=by
 obtain⟨h0,h00,v,h1,h2⟩:=h
 rcases h2 with ⟨rfl,rfl⟩|⟨b,off,cs,imm,rfl,e2,e3,e4,e5⟩
 ·refine zj (M:=25) (rs:=[.tmp 2]) (hw.call _) hw.ice hw.froz Try.func27 rfl rfl zm1.2 rfl ?_;dsimp only[zm1,zO,Nat.reduceAdd]
  repeat' (first
   | (apply Rx.nl ?_;clear hK K)|apply Rx.o ?_|(apply Rx.cd (fun hb hbp=>?_) (fun hb hbp=>?_)<;>try (cases hb;done))|apply Wp.seq ?_|(apply zd fun K hK=>?_)|apply zh ?_|apply Rx.rt ?_)
  all_goals (refine⟨eI,_,eR,?_⟩;try simp only[zp])
  exact⟨by first|rfl|trivial,⟨h0,h00,_,h1,.inl ⟨rfl,rfl⟩⟩,by first|rfl|trivial,fun _ _=>by first|rfl|trivial⟩
 ·cases L with
  | nil=>
    refine zj (M:=25) (rs:=[.tmp 2]) (hw.call _) hw.ice hw.froz Try.func27 rfl rfl zm1.2 rfl ?_;dsimp only[zm1,zO,Nat.reduceAdd]
    repeat' (first
     | (apply Rx.nl ?_;clear hK K)|apply Rx.o ?_|(apply Rx.cd (fun hb hbp=>?_) (fun hb hbp=>?_)<;>try (cases hb;done))|apply Wp.seq ?_|(apply zd fun K hK=>?_)|apply zh ?_|apply Rx.rt ?_)
    all_goals (refine⟨eI,_,eR,?_⟩;try simp only[zp])
    exact⟨by first|rfl|trivial,⟨h0,h00,_,h1,.inr ⟨b,off,cs,imm,rfl,e2,e3,e4,e5⟩⟩,by first|rfl|trivial,fun _ _=>by first|rfl|trivial⟩
  | cons a L=>
    have hg:cs[off]?=some (.int .i64 a):=by
     have:=congrArg (fun l=>l[0]?) e3
     simpa using this
    have hd:cs.drop (off+1)=L.map (fun n=>AV.int .i64 n):=by
     have:=congrArg (List.drop 1) e3
     rw[List.drop_drop]at this
     simpa using this
    have hpos:0 < L.length+1:=by omega
    have hsl:zaj Try.prog 23 (.sl b off (L.length+1) 1) (some (.int .i64 1)) none=if L=[]then some (.lst [])else some (.sl b (off+1) L.length 1):=by
     simp only[zaj,Try.underlying23,sz3,jl]
     by_cases hn:L=[]
     ·subst hn;rfl
     ·have:0 < L.length:=List.length_pos_iff.2 hn
      rw[if_neg hn,if_pos ⟨by omega,Nat.le_refl _,trivial⟩,if_neg (by omega)]
      rfl
    have hne:¬ (((L.length+1:Nat):Int)=0):=by omega
    have hrb:(b == r)=false:=zP e4
    refine zj (M:=25) (rs:=[.tmp 2]) (hw.call _) hw.ice hw.froz Try.func27 rfl rfl zm1.2 rfl ?_;dsimp only[zm1,zO,Nat.reduceAdd]
    by_cases hn:L=[]
    ·subst hn
     have hsl':zaj Try.prog 23 (.sl b off 1 1) (some (.int .i64 1)) none=some (.lst []):=hsl
     have hne':¬ (((1:Nat):Int)=0):=by decide
     have hp':0 < 1:=by decide
     clear hsl hne hpos
     repeat' (first
      | (apply Rx.nl ?_;clear hK K)|apply Ry.o ?_|apply Ry.on ?_|(apply Ry.cd (fun hb hbp=>?_) (fun hb hbp=>?_)<;>try (cases hb;done))|apply Wp.seq ?_|(apply zd fun K hK=>?_)|apply zh ?_|apply Rx.rt ?_)
     all_goals (refine⟨eI,_,eR,?_⟩;try simp only[zp])
     refine⟨by first|rfl|trivial,⟨h0,h00,_,by rw[Hp.get_set,if_pos rfl],.inl ⟨rfl,rfl⟩⟩,by first|rfl|trivial,fun k hk=>by rw[Hp.get_set,if_neg hk]⟩
    ·rw[if_neg hn]at hsl
     repeat' (first
      | (apply Rx.nl ?_;clear hK K)|apply Ry.o ?_|apply Ry.on ?_|(apply Ry.cd (fun hb hbp=>?_) (fun hb hbp=>?_)<;>try (cases hb;done))|apply Wp.seq ?_|(apply zd fun K hK=>?_)|apply zh ?_|apply Rx.rt ?_)
     all_goals (refine⟨eI,_,eR,?_⟩;try simp only[zp])
     refine⟨by first|rfl|trivial,⟨h0,h00,_,by rw[Hp.get_set,if_pos rfl];rfl,.inr ⟨b,off+1,cs,imm,rfl,by rw[Hp.get_set,if_neg e4];exact e2,hd,e4,e5⟩⟩,by first|rfl|trivial,fun k hk=>by rw[Hp.get_set,if_neg hk]⟩
end Go.Proofs.Ytpbcimfiofmoeaa
namespace Go.Proofs.Ytpbcimfiofmoeaa
set_option maxRecDepth 20000
open Go Go.Ab
theorem ym.keep2 {S S':Nat→Prop}{n:Nat}{H H':Hp}{v w:List AV} (h:ym S n H v w) (hS:∀ k,k < H.next→S k→S' k) (hn:H.next≤H'.next) (hf:∀ k,S k→k < H.next→H'.get k=H.get k):ym S' n H' v w:=by
 obtain⟨u,h1,h2⟩:=h
 exact⟨u,h1.mono fun a b k=>k.frame2 hS hn fun q h3 h4=>.inl (hf q h3 h4).symm,h2⟩
theorem zbS.keep2 {S S':Nat→Prop}{n z:Nat}{H H':Hp}{a b:List (List AV)} (h:zbS S n H z a b) (hS:∀ k,k < H.next→S k→S' k) (hn:H.next≤H'.next) (hf:∀ k,S k→k < H.next→H'.get k=H.get k):zbS S' n H' z a b:=zbf.mono (fun x y k=>⟨k.1,k.2.keep2 hS hn hf⟩) h
theorem zbS.len {S:Nat→Prop}{n z:Nat}{H:Hp}:∀ {a b:List (List AV)},zbS S n H z a b→∀ x∈a,x.length=z
 | [],[],_,x,hx=>by simp at hx
 | y::a,w::b,h,x,hx=>by
   rcases List.mem_cons.1 hx with rfl|hx
   ·exact h.1.1
   ·exact zbS.len h.2 x hx
def yh (S:Nat→Prop) (n:Nat) (H:Hp) (z:Nat) (v:AV) (ws:List (List AV)):Prop:=
 (v=.nilS∧ws=[])∨∃ q imm rows,v=.sl q 0 rows.length z∧S q∧q < H.next∧H.get q=some (.cells rows.flatten imm true)∧imm≤rows.flatten.length∧zbS (fun k=>S k∧k≠q) n H z rows ws
theorem yh.rd {S:Nat→Prop}{n:Nat}{H:Hp}{z:Nat}{v:AV}{ws:List (List AV)} (h:yh S n H z v ws):RdW S (n+1) H v (.lst ws):=by
 rcases h with ⟨rfl,rfl⟩|⟨q,imm,rows,rfl,h1,h2,h3,h4,h5⟩
 ·exact .nilS
 ·exact .rows h1 h2 h3 h4 (h5.frame (fun k hk=>hk.1) (Nat.le_refl _) fun _ _ _=>rfl)
theorem yh.up {S:Nat→Prop}{n m:Nat}{H:Hp}{z:Nat}{v:AV}{ws:List (List AV)} (h:yh S n H z v ws) (hm:n≤m):yh S m H z v ws:=by
 rcases h with h|⟨q,imm,rows,e,h1,h2,h3,h4,h5⟩
 ·exact .inl h
 ·exact .inr ⟨q,imm,rows,e,h1,h2,h3,h4,zbS.up h5 hm⟩
theorem yh.keep {S S':Nat→Prop}{n:Nat}{H H':Hp}{z:Nat}{v:AV}{ws:List (List AV)} (h:yh S n H z v ws) (hS:∀ k,k < H.next→S k→S' k) (hn:H.next≤H'.next) (hf:∀ k,S k→k < H.next→H'.get k=H.get k):yh S' n H' z v ws:=by
 rcases h with h|⟨q,imm,rows,e,h1,h2,h3,h4,h5⟩
 ·exact .inl h
 ·exact .inr ⟨q,imm,rows,e,hS q h2 h1,by omega,by rw[hf q h1 h2];exact h3,h4,h5.keep2 (fun k hk hq=>⟨hS k hk hq.1,hq.2⟩) hn fun k h6 h7=>hf k h6.1 h7⟩
theorem yh.one {S:Nat→Prop}{n:Nat}{H:Hp}{z:Nat}{v:AV}{ws:List (List AV)} (h:yh S n H z v ws):AV.one v=true∧v.cells=[v]:=by
 rcases h with ⟨rfl,rfl⟩|⟨q,imm,rows,rfl,_⟩<;>exact⟨rfl,rfl⟩
theorem yh.len {P:Program}{t e:TypeId} (ht:P.underlying t=some (.slice e)) {S:Nat→Prop}{n:Nat}{H H':Hp}{z:Nat}{v:AV}{ws:List (List AV)} (h:yh S n H z v ws):ye P H' t v=some (.int .i64 ws.length):=by
 rcases h with ⟨rfl,rfl⟩|⟨q,imm,rows,rfl,h1,h2,h3,h4,h5⟩
 ·exact ja ht
 ·rw[jq ht,show rows.length=ws.length from zbf.len h5]
theorem yh.push {P:Program}{t e:TypeId}{z b:Nat}{zz:List AV} (ht:P.underlying t=some (.slice e)) (hs:zG P e=some z) (hb:z8 P e=some b) (hz:yl P e=some zz) (hzz:zz.length=z) (hsrc:jh P t=true)
 {lo n:Nat}{H:Hp}{v:AV}{ws:List (List AV)} (h:yh (fun k=>lo≤k) n H z v ws) (hlo:lo≤H.next) {r imm:Nat}{row w:List AV} (hg:H.get r=some (.cells row imm true)) (hrow:row.length=z) (hone:row.all AV.one=true)
 (hw:ym (fun k=>lo≤k∧∀ o m z',v≠.sl k o m z') n H row w) (hb1:(ws.length+1) * b≤zW) (hb2:ws.length+1≤zW) :
 ∃ v' H',zX P false H t t v (.sl r 0 1 z)=some (v',H')∧yh (fun k=>lo≤k) n H' z v' (ws++[w])∧H'.next=H.next+1∧(∀ k,k < H.next→(∀ o m z',v≠.sl k o m z')→H'.get k=H.get k)∧∀ k o m z',v'=.sl k o m z'→k=H.next:=by
 have hx:yk H z (.sl r 0 1 z)=some (1,row):=by
  have:=zdV (H:=H) (r:=r) (o:=0) (n:=1) (z:=z) (s:=z) hg (by rw[List.drop_zero,List.length_take];omega)
  rw[this,List.drop_zero,List.take_of_length_le (by omega)]
 rcases h with ⟨rfl,rfl⟩|⟨q,imm',rows,rfl,h1,h2,h3,h4,h5⟩
 ·refine⟨.sl H.next 0 1 z,H.alloc (.cells row 0 true),append_nil ht hs hb hz hsrc hx hone hzz (by simpa using hb1) (by simpa using hb2),.inr ⟨H.next,0,[row],rfl,hlo,Nat.lt_succ_self _,by rw[za,if_pos rfl];simp,by simp,⟨⟨hrow,hw.keep2 (fun k h1 h2=>⟨h2.1,by omega⟩) (Nat.le_succ _) fun k h1 h2=>by rw[za,if_neg (by omega)]⟩,trivial⟩⟩,rfl,fun k hk _=>by rw[za,if_neg (by omega)],fun k o m z' e=>?_⟩
  simp only[AV.sl.injEq]at e
  exact e.1.symm
 ·have hrl:=zdZ (zbS.len h5)
  have hwl:rows.length=ws.length:=zbf.len h5
  have htr:zae false H z (.sl q 0 rows.length z)=H:=by
   unfold zae
   simp only[h3,Nat.zero_add]
   have:Nat.blt (rows.length * z) rows.flatten.length=false:=by
    cases hb:Nat.blt (rows.length * z) rows.flatten.length with
    | false=>rfl
    | true=>rw[Nat.blt_eq]at hb;omega
   simp only[Bool.not_false,Bool.true_and,this,Bool.false_and]
  refine⟨.sl H.next 0 (rows.length+1) z,(H.kill q).alloc (.cells (rows.flatten++row) (imm' - 0) true),?_,.inr ⟨H.next,imm' - 0,rows++[row],by simp,hlo,Nat.lt_succ_self _,?_,by rw[List.flatten_append,List.length_append];omega,?_⟩,rfl,fun k hk hno=>?_,fun k o m z' e=>?_⟩
  ·simp only[zX,ht,hs,hb,hz,hsrc,hx,hone,htr,hzz,and_self,if_true,yY,h3,Nat.zero_add,List.drop_zero,Bool.false_eq_true,if_false]
   rw[if_pos ⟨by rw[hwl];exact hb1,by rw[hwl];exact hb2,by omega,trivial,h4⟩]
  ·show((H.kill q).alloc _).get (H.kill q).next=_
   rw[za,if_pos rfl];simp
  ·have hold:∀ k,k < H.next→k≠q→((H.kill q).alloc (.cells (rows.flatten++row) (imm' - 0) true)).get k=H.get k:=fun k h6 h7=>by rw[za,if_neg (by simp only[zY];omega),zR,if_neg h7]
   refine zbf.append (h5.keep2 (fun k h6 h7=>⟨h7.1,by omega⟩) (Nat.le_succ _) fun k h6 h7=>hold k h7 h6.2) ⟨⟨hrow,hw.keep2 (fun k h6 h7=>⟨h7.1,by omega⟩) (Nat.le_succ _) fun k h6 h7=>hold k h7 fun e=>h6.2 0 rows.length z (by rw[e])⟩,trivial⟩
  ·rw[za,if_neg (by simp only[zY];omega),zR,if_neg (fun e=>hno 0 rows.length z (by rw[e]))]
  ·simp only[AV.sl.injEq]at e
   exact e.1.symm
theorem zq6 {z:Nat}{H:Hp}{rows:List (List AV)} (h:∀ r∈rows,r.length=z):yk H z (.lst rows)=some (rows.length,rows.flatten):=by
 simp only[yk]
 rw[if_pos (by rw[List.all_eq_true];intro r hr;simp[h r hr])]
theorem ym.ar {S:Nat→Prop}{n:Nat}{H:Hp} (x:Ar):ym S (n+1) H x.cells x.cells:=.cons (.str _) (.cons (.int _ _) .nil)
theorem zjB {S:Nat→Prop}{n:Nat}{H:Hp}:∀ l:List Ar,zbS S (n+1) H 2 (l.map Ar.cells) (l.map Ar.cells)
 | []=>trivial
 | a::l=>⟨⟨rfl,ym.ar a⟩,zjB l⟩
theorem zn8:∀ l:List Ar,(l.map Ar.cells).flatten.all AV.one=true
 | []=>rfl
 | a::l=>by rw[List.map_cons,List.flatten_cons,List.all_append,a.one,zn8 l];rfl
theorem zpl {S:Nat→Prop}{n:Nat}{H:Hp}{q imm:Nat}{tip:Bool} (l:List Int) (hS:S q) (hq:q < H.next) (hg:H.get q=some (.cells (l.map fun n=>.int .i64 n) imm tip)) (hi:imm≤l.length):RdW S (n+2) H (.sl q 0 l.length 1) (.lst (l.map fun n=>[.int .i64 n])):=by
 have hf:(l.map fun n=>[AV.int .i64 n]).flatten=l.map fun n=>AV.int .i64 n:=by
  clear hg hi
  induction l with
  | nil=>rfl
  | cons a l ih=>rw[List.map_cons,List.flatten_cons,ih];rfl
 have hr:∀ l:List Int,zbS S (n+1) H 1 (l.map fun n=>[AV.int .i64 n]) (l.map fun n=>[AV.int .i64 n]):=fun l=>by
  induction l with
  | nil=>trivial
  | cons a l ih=>exact⟨⟨rfl,.cons (.int _ _) .nil⟩,ih⟩
 have:=RdW.rows (n:=n+1) (a:=l.map fun n=>[AV.int .i64 n]) (imm:=imm) (tip:=tip) hS hq (by rw[hf];exact hg) (by rw[hf,List.length_map];exact hi) (hr l)
 rw[List.length_map]at this
 exact this
theorem zm2 {cfg:Cfg} (fit:Fit Try.prog) {ρ:Nat→Int} (hD:zcP cfg.dec ρ) (hc:∀ f args r,cfg.call f args=some r→Con Try.prog ρ f args r) {g:FuncId}{args:List AV}{r:AV}{n:Nat}
 (hp:zaz args) (h:zr Try.prog cfg g args H0 fun v H'=>∃ m u,iceV H' m v=some u∧wkN n u=r):Con Try.prog ρ g args r:=by
 unfold zr at h
 obtain⟨v,H',h1,m,u,h2,h3⟩:=h
 refine znP n (zdW (m:=m) fit hD hc hp ?_) h3
 unfold zr
 exact⟨v,H',h1,h2⟩
theorem zkf {P:Program}{t e:TypeId}{z b:Nat}{zz:List AV} (ht:P.underlying t=some (.slice e)) (hs:zG P e=some z) (hb:z8 P e=some b) (hz:yl P e=some zz) (hzz:zz.length=z) (hsrc:jh P t=true)
 {S S':Nat→Prop}{n:Nat}{H:Hp}{v:AV}{ws:List (List AV)} (h:yh S n H z v ws) (hSS:∀ k,k < H.next→S k→S' k) (hN:S' H.next) {r imm:Nat}{row:List AV} (hg:H.get r=some (.cells row imm true)) (hrow:row.length=z) (hone:row.all AV.one=true)
 (hb1:(ws.length+1) * b≤zW) (hb2:ws.length+1≤zW) :
 ∃ H' rows imm',zX P false H t t v (.sl r 0 1 z)=some (.sl H.next 0 (ws.length+1) z,H')∧rows.length=ws.length∧(∀ x∈rows,x.length=z)∧H'.get H.next=some (.cells (rows.flatten++row) imm' true)∧imm'≤rows.flatten.length∧H'.next=H.next+1∧(∀ k,k < H.next→(∀ o m z',v≠.sl k o m z')→H'.get k=H.get k) ∧
   zbS (fun k=>S' k∧k≠H.next) n H' z rows ws:=by
 have hx:yk H z (.sl r 0 1 z)=some (1,row):=by
  have:=zdV (H:=H) (r:=r) (o:=0) (n:=1) (z:=z) (s:=z) hg (by rw[List.drop_zero,List.length_take];omega)
  rw[this,List.drop_zero,List.take_of_length_le (by omega)]
 rcases h with ⟨rfl,rfl⟩|⟨q,imm',rows,rfl,h1,h2,h3,h4,h5⟩
 ·exact⟨H.alloc (.cells row 0 true),[],0,append_nil ht hs hb hz hsrc hx hone hzz (by simpa using hb1) (by simpa using hb2),rfl,by simp,by rw[za,if_pos rfl];simp,Nat.zero_le _,rfl,fun k hk _=>by rw[za,if_neg (by omega)],trivial⟩
 ·have hrl:=zdZ (zbS.len h5)
  have hwl:rows.length=ws.length:=zbf.len h5
  have htr:zae false H z (.sl q 0 rows.length z)=H:=by
   unfold zae
   simp only[h3,Nat.zero_add]
   have:Nat.blt (rows.length * z) rows.flatten.length=false:=by
    cases hb:Nat.blt (rows.length * z) rows.flatten.length with
    | false=>rfl
    | true=>rw[Nat.blt_eq]at hb;omega
   simp only[Bool.not_false,Bool.true_and,this,Bool.false_and]
  refine⟨(H.kill q).alloc (.cells (rows.flatten++row) (imm' - 0) true),rows,imm' - 0,?_,hwl,zbS.len h5,?_,by omega,rfl,fun k hk hno=>?_,?_⟩
  ·simp only[zX,ht,hs,hb,hz,hsrc,hx,hone,htr,hzz,and_self,if_true,yY,h3,Nat.zero_add,List.drop_zero,Bool.false_eq_true,if_false]
   rw[if_pos ⟨by rw[hwl];exact hb1,by rw[hwl];exact hb2,by omega,trivial,h4⟩,hwl]
  ·show((H.kill q).alloc _).get (H.kill q).next=_
   rw[za,if_pos rfl]
  ·rw[za,if_neg (by simp only[zY];omega),zR,if_neg (fun e=>hno 0 rows.length z (by rw[e]))]
  ·exact h5.keep2 (fun k h6 h7=>⟨hSS k h6 h7.1,by omega⟩) (Nat.le_succ _) fun k h6 h7=>by rw[za,if_neg (by simp only[zY];omega),zR,if_neg h6.2]
theorem yh.of {S:Nat→Prop}{n q z imm:Nat}{H:Hp}{rows ws:List (List AV)}{row w:List AV} (hS:S q) (hq:q < H.next) (hz:∀ x∈rows,x.length=z) (hrow:row.length=z) (hg:H.get q=some (.cells (rows.flatten++row) imm true)) (hi:imm≤rows.flatten.length) (hr:zbS (fun k=>S k∧k≠q) n H z rows ws) (hw:ym (fun k=>S k∧k≠q) n H row w):yh S n H z (.sl q 0 (ws.length+1) z) (ws++[w]):=by
 have hl:rows.length=ws.length:=zbf.len hr
 exact .inr ⟨q,imm,rows++[row],by rw[List.length_append,hl];rfl,hS,hq,by rw[hg];simp,by rw[List.flatten_append,List.length_append];omega,hr.append ⟨⟨hrow,hw⟩,trivial⟩⟩
theorem zfN {S:Nat→Prop}{n:Nat}{H:Hp}{r:Nat} (l:List (List UInt8)) (hS:S r) (hr:r < H.next) (hg:H.get r=some (.cells (l.map .str) 0 true)):yh S (n+1) H 1 (.sl r 0 l.length 1) (l.map fun s=>[AV.str s]):=
 .inr ⟨r,0,l.map fun s=>[AV.str s],by rw[List.length_map],hS,hr,by rw[zgh];exact hg,Nat.zero_le _,zbS.strs l⟩
structure FnL (pt:Nat→Nat) (b n:Nat) (H:Hp) (f:Fu) (p l bo:AV) (v:List AV):Prop where
 len:v.length=5
 one:v.all AV.one=true
 ps:yh (fun q=>pt q=b) n H 1 p (f.params.map fun s=>[AV.str s])
 ls:yh (fun q=>pt q=b+1) n H 1 l (f.locals.map fun s=>[AV.str s])
 bo:yh (fun q=>pt q=b+2) n H 17 bo (f.body.map St.cells)
 vw:ym (fun q=>pt q=b+3) n H v f.value.cells
def fnC (nm:List UInt8) (p l bo:AV) (v:List AV):List AV:=[.str nm,p,l,bo]++v
structure ProgL (pt:Nat→Nat) (n:Nat) (H:Hp) (ra rf:Nat) (x y:Int) (f g:Fu) (pf lf bf:AV) (vf:List AV) (pg lg bg:AV) (vg:List AV):Prop where
 ga:H.get ra=some (.cells [.str [97],.int .i64 x,.str [98],.int .i64 y] 0 true)
 gf:H.get rf=some (.cells (fnC f.name pf lf bf vf++fnC g.name pg lg bg vg) 0 true)
 ltA:ra < H.next
 ltF:rf < H.next
 lra:pt ra=1
 lrf:pt rf=2
 F:FnL pt 3 n H f pf lf bf vf
 G:FnL pt 7 n H g pg lg bg vg
def zeA (M a b c q:Nat):Nat:=if q≤M then 0 else if q=M+1 then 1 else if q=M+7 then 2 else if q=M+3 then 3 else if q=M+4 then 4 else if q=M+5 then 7 else if q=M+6 then 8 else if q < a then 5 else if q < b then 6 else if q < c then 9 else 10
theorem labP5 {M a b c q:Nat} (h:M+8≤q) (h1:q < a):zeA M a b c q=5:=by unfold zeA;(repeat' split)<;>omega
theorem labP6 {M a b c q:Nat} (h:M+8≤q) (h1:a≤q) (h2:q < b):zeA M a b c q=6:=by unfold zeA;(repeat' split)<;>omega
theorem labP9 {M a b c q:Nat} (h:M+8≤q) (h0:a≤q) (h1:b≤q) (h2:q < c):zeA M a b c q=9:=by unfold zeA;(repeat' split)<;>omega
theorem labP10 {M a b c q:Nat} (h:M+8≤q) (h0:a≤q) (h1:b≤q) (h2:c≤q):zeA M a b c q=10:=by unfold zeA;(repeat' split)<;>omega
theorem zfO {P:Program}{t e:TypeId}{z b:Nat}{zz:List AV} (ht:P.underlying t=some (.slice e)) (hs:zG P e=some z) (hb:z8 P e=some b) (hz:yl P e=some zz) (hzz:zz.length=z) (hsrc:jh P t=true)
 {S S':Nat→Prop}{n:Nat}{H:Hp}{v:AV}{ws:List (List AV)} (h:yh S n H z v ws) (hSS:∀ k,k < H.next→S k→S' k) (hN:S' H.next) {r imm:Nat}{row w:List AV} (hg:H.get r=some (.cells row imm true)) (hrow:row.length=z) (hone:row.all AV.one=true)
 (hw:ym (fun k=>S' k∧∀ o m z',v≠.sl k o m z') n H row w) (hb1:(ws.length+1) * b≤zW) (hb2:ws.length+1≤zW) :
 ∃ H',zX P false H t t v (.sl r 0 1 z)=some (.sl H.next 0 (ws.length+1) z,H')∧yh S' n H' z (.sl H.next 0 (ws.length+1) z) (ws++[w])∧H'.next=H.next+1∧(∀ k,k < H.next→(∀ o m z',v≠.sl k o m z')→H'.get k=H.get k):=by
 obtain⟨H',rows,imm',a1,a2,a3,a4,a5,a6,a7,a8⟩:=zkf (P:=P) ht hs hb hz hzz hsrc h hSS hN hg hrow hone hb1 hb2
 refine⟨H',a1,?_,a6,a7⟩
 exact yh.of hN (by omega) a3 hrow a4 a5 a8 (hw.keep2 (fun k h1 h2=>⟨h2.1,by omega⟩) (by omega) fun k h1 h2=>a7 k h2 h1.2)
theorem len3g {α:Type}{s:List α} (h:s.length=3):∃ a b c,s=[a,b,c]:=by
 match s,h with
 | [a,b,c],_=>exact⟨a,b,c,rfl⟩
theorem bsN1 (H:Hp) {cs:List AV} (hl:cs.length=3) (ho:cs.all AV.one=true):zI Try.prog H 26 1 [(0,.agg cs)]=some (.sl H.next 0 1 3,H.alloc (.cells cs 0 true)):=by
 obtain⟨a,b,c,rfl⟩:=len3g hl
 kernel_rfl
theorem agN (a b c:AV):yL 3 [a,b,c]=some (.agg [a,b,c]):=rfl
structure Lx where
 p:Pr
 b:Nat
 ra:Nat
 rf:Nat
 rt:Nat
 rn:Nat
 ae:List (Nm×Int)
 fe:List (Nm×Int)
 ne:List (Nm×Int)
def lc (X:Lx) (s:Bd) (lv vv:AV):List AV:=[.lst (X.p.arrays.map Ar.cells),.lst (X.p.funcs.map Fu.cells),.map X.ra,.map X.rf,lv,.map X.rt,.map X.rn,vv,.int .i64 s.state,.int .i64 s.loops]
structure RepL (X:Lx) (H:Hp) (S:Nat→Prop) (s:Bd) (lv vv:AV):Prop where
 m:H.get X.b=some (.cells (lc X s lv vv) 0 true)
 a:H.get X.ra=some (.map (vEs X.ae))
 f:H.get X.rf=some (.map (vEs X.fe))
 t:H.get X.rt=some (.map (vEs (atV s.l 0)))
 n:H.get X.rn=some (.map (vEs X.ne))
 nodes:yh S 2 H 3 lv (s.l.map Nd.cells)
 vars:zfF H vv s.vars 0
 o1:X.ra < X.rf
 o2:X.rf < X.rt
 o3:X.rt < X.rn
 o4:X.rn < X.b
 o5:X.b < H.next
 sS:∀ k,S k→X.b < k∧k < H.next∧¬ yq vv k
 vS:∀ k,yq vv k→X.b < k∧k < H.next
structure Sm (n:Nat) (H H':Hp):Prop where
 get:∀ k,k < n→H'.get k=H.get k
structure FrL (X:Lx) (S:Nat→Prop) (vv:AV) (H:Hp) (S':Nat→Prop) (vv':AV) (H':Hp):Prop where
 next:H.next≤H'.next
 get:∀ k,k < H.next→k≠X.b→k≠X.rt→¬ S k→¬ yq vv k→H'.get k=H.get k
 sub:∀ k,S' k→S k∨H.next≤k
 own:∀ k,yq vv' k→yq vv k∨H.next≤k
theorem FrL.refl (X:Lx) (S:Nat→Prop) (vv:AV) (H:Hp):FrL X S vv H S vv H:=⟨Nat.le_refl _,fun _ _ _ _ _ _=>rfl,fun _ h=>.inl h,fun _ h=>.inl h⟩
theorem FrL.trans {X:Lx}{S S' S'':Nat→Prop}{v v' v'':AV}{H H' H'':Hp} (h:FrL X S v H S' v' H') (k:FrL X S' v' H' S'' v'' H''):FrL X S v H S'' v'' H'' where
 next:=Nat.le_trans h.next k.next
 get r h1 h2 h3 h4 h5:=by
  rw[k.get r (Nat.lt_of_lt_of_le h1 h.next) h2 h3 (fun e=>?_) (fun e=>?_)]
  ·exact h.get r h1 h2 h3 h4 h5
  ·rcases h.sub r e with e|e
   ·exact h4 e
   ·omega
  ·rcases h.own r e with e|e
   ·exact h5 e
   ·omega
 sub r e:=by
  rcases k.sub r e with e|e
  ·exact h.sub r e
  ·exact .inr (Nat.le_trans h.next e)
 own r e:=by
  rcases k.own r e with e|e
  ·exact h.own r e
  ·exact .inr (Nat.le_trans h.next e)
section
variable {X:Lx} {H H':Hp} {S:Nat → Prop} {s:Bd} {lv vv:AV}
theorem RepL.keep (h:RepL X H S s lv vv) (hn:H.next≤H'.next) (hg:∀ k,k < H.next→(k≤X.b∨S k∨yq vv k)→H'.get k=H.get k):RepL X H' S s lv vv:=by
 have o1:=h.o1
 have o2:=h.o2
 have o3:=h.o3
 have o4:=h.o4
 have o5:=h.o5
 refine⟨by rw[hg _ o5 (.inl (Nat.le_refl _))];exact h.m,by rw[hg _ (by omega) (.inl (by omega))];exact h.a,by rw[hg _ (by omega) (.inl (by omega))];exact h.f,by rw[hg _ (by omega) (.inl (by omega))];exact h.t,by rw[hg _ (by omega) (.inl (by omega))];exact h.n,h.nodes.keep (fun _ _ h=>h) hn fun k hk h6=>hg k h6 (.inr (.inl hk)),h.vars.keep hn fun k hk=>hg k (h.vS k hk).2 (.inr (.inr hk)),o1,o2,o3,o4,by omega,fun k hk=>?_,fun k hk=>?_⟩
 ·have:=h.sS k hk
  exact⟨this.1,by omega,this.2.2⟩
 ·have:=h.vS k hk
  omega
theorem RepL.alloc (h:RepL X H S s lv vv) (b:HB):RepL X (H.alloc b) S s lv vv:=h.keep (Nat.le_succ _) fun k hk _=>by rw[za,if_neg (by omega)]
theorem RepL.alloc2 (h:RepL X H S s lv vv) (b c:HB):RepL X ((H.alloc b).set H.next c) S s lv vv:=h.keep (Nat.le_succ _) fun k hk _=>by rw[Hp.get_set,if_neg (by omega),za,if_neg (by omega)]
theorem FrL.alloc {S0:Nat→Prop}{v0:AV}{H0:Hp} (h:FrL X S0 v0 H0 S vv H) (b:HB):FrL X S0 v0 H0 S vv (H.alloc b):=h.trans ⟨Nat.le_succ _,fun k hk _ _ _ _=>by rw[za,if_neg (by omega)],fun _ h=>.inl h,fun _ h=>.inl h⟩
theorem FrL.alloc2 {S0:Nat→Prop}{v0:AV}{H0:Hp} (h:FrL X S0 v0 H0 S vv H) (b c:HB):FrL X S0 v0 H0 S vv ((H.alloc b).set H.next c):=h.trans ⟨Nat.le_succ _,fun k hk _ _ _ _=>by rw[Hp.get_set,if_neg (by omega),za,if_neg (by omega)],fun _ h=>.inl h,fun _ h=>.inl h⟩
theorem RepL.setS (h:RepL X H S s lv vv) (x:Int):RepL X (H.set X.b (.cells (lc X { s with state:=x } lv vv) 0 true)) S { s with state:=x } lv vv∧FrL X S vv H S vv (H.set X.b (.cells (lc X { s with state:=x } lv vv) 0 true)):=by
 have o1:=h.o1
 have o2:=h.o2
 have o3:=h.o3
 have o4:=h.o4
 have o5:=h.o5
 have hg:∀ k,k≠X.b→(H.set X.b (.cells (lc X { s with state:=x } lv vv) 0 true)).get k=H.get k:=fun k hk=>by rw[Hp.get_set,if_neg hk]
 refine⟨⟨by rw[Hp.get_set,if_pos rfl],by rw[hg _ (by omega)];exact h.a,by rw[hg _ (by omega)];exact h.f,by rw[hg _ (by omega)];exact h.t,by rw[hg _ (by omega)];exact h.n,h.nodes.keep (fun _ _ h=>h) (Nat.le_refl _) fun k hk h6=>hg k (by have:=h.sS k hk;omega),h.vars.keep (Nat.le_refl _) fun k hk=>hg k (by have:=h.vS k hk;omega),o1,o2,o3,o4,o5,h.sS,h.vS⟩,⟨Nat.le_refl _,fun k _ h2 _ _ _=>hg k h2,fun _ h=>.inl h,fun _ h=>.inl h⟩⟩
theorem RepL.setN (h:RepL X H S s lv vv) (x:Nat):RepL X (H.set X.b (.cells (lc X { s with loops:=x } lv vv) 0 true)) S { s with loops:=x } lv vv∧FrL X S vv H S vv (H.set X.b (.cells (lc X { s with loops:=x } lv vv) 0 true)):=by
 have o1:=h.o1
 have o2:=h.o2
 have o3:=h.o3
 have o4:=h.o4
 have o5:=h.o5
 have hg:∀ k,k≠X.b→(H.set X.b (.cells (lc X { s with loops:=x } lv vv) 0 true)).get k=H.get k:=fun k hk=>by rw[Hp.get_set,if_neg hk]
 refine⟨⟨by rw[Hp.get_set,if_pos rfl],by rw[hg _ (by omega)];exact h.a,by rw[hg _ (by omega)];exact h.f,by rw[hg _ (by omega)];exact h.t,by rw[hg _ (by omega)];exact h.n,h.nodes.keep (fun _ _ h=>h) (Nat.le_refl _) fun k hk h6=>hg k (by have:=h.sS k hk;omega),h.vars.keep (Nat.le_refl _) fun k hk=>hg k (by have:=h.vS k hk;omega),o1,o2,o3,o4,o5,h.sS,h.vS⟩,⟨Nat.le_refl _,fun k _ h2 _ _ _=>hg k h2,fun _ h=>.inl h,fun _ h=>.inl h⟩⟩
theorem RepL.setV (h:RepL X H S s lv vv) {i:Nat} (hi:i < s.vars.length) (x:Int):∃ r,zq Try.prog 23 vv (.int .i64 (i:Int))=some (.ptr r i)∧zaZ Try.prog H 3 (.ptr r i)=some (.int .i64 (s.vars.getD i 0)) ∧
 ∃ H',zbr Try.prog H 3 (.ptr r i) (.int .i64 x)=some H'∧X.b < r∧r < H.next∧yq vv r∧RepL X H' S { s with vars:=s.vars.set i x } lv vv∧FrL X S vv H S vv H'∧(∀ k,k≠r→H'.get k=H.get k)∧H'.next=H.next:=by
 rcases h.vars with ⟨_,h2⟩|⟨r,hv,hg,hr0,hr⟩
 ·rw[h2]at hi;simp at hi
 ·have hown:yq vv r:=⟨_,hv⟩
  have hbr:=(h.vS r hown).1
  refine⟨r,?_,?_,H.set r (.cells ((s.vars.set i x).map (.int .i64)) 0 true),?_,hbr,hr,hown,?_,⟨Nat.le_refl _,fun k _ _ _ _ h5=>?_,fun _ h=>.inl h,fun _ h=>.inl h⟩,fun k hk=>by rw[Hp.get_set,if_neg hk],rfl⟩
  ·rw[hv,zdU Try.underlying23 sz3 hi];simp
  ·rw[zh2 Try.underlying3 rfl hg,List.getElem?_map,List.getD_eq_getElem?_getD,List.getElem?_eq_getElem hi];rfl
  ·rw[zuv hg (by rw[List.length_map];exact hi),List.map_set]
  ·have o1:=h.o1
   have o2:=h.o2
   have o3:=h.o3
   have o4:=h.o4
   have o5:=h.o5
   have hk:∀ k,k≠r→(H.set r (.cells ((s.vars.set i x).map (.int .i64)) 0 true)).get k=H.get k:=fun k hk=>by rw[Hp.get_set,if_neg hk]
   refine⟨by rw[hk _ (by omega)];exact h.m,by rw[hk _ (by omega)];exact h.a,by rw[hk _ (by omega)];exact h.f,by rw[hk _ (by omega)];exact h.t,by rw[hk _ (by omega)];exact h.n,h.nodes.keep (fun _ _ h=>h) (Nat.le_refl _) fun k hS _=>hk k fun e=>(h.sS k hS).2.2 (by rw[e];exact hown),.inr ⟨r,by rw[hv,List.length_set],by rw[Hp.get_set,if_pos rfl],hr0,hr⟩,o1,o2,o3,o4,o5,h.sS,h.vS⟩
  ·rw[Hp.get_set,if_neg (fun e=>h5 (by rw[e];exact hown))]
theorem RepL.swapV (h:RepL X H S s lv vv) {vw:AV}{l:List Int} (hw:zfF H vw l 0) (h1:∀ k,yq vw k→X.b < k∧k < H.next∧¬ S k):RepL X (H.set X.b (.cells (lc X { s with vars:=l } lv vw) 0 true)) S { s with vars:=l } lv vw:=by
 have o1:=h.o1
 have o2:=h.o2
 have o3:=h.o3
 have o4:=h.o4
 have o5:=h.o5
 have hg:∀ k,k≠X.b→(H.set X.b (.cells (lc X { s with vars:=l } lv vw) 0 true)).get k=H.get k:=fun k hk=>by rw[Hp.get_set,if_neg hk]
 exact⟨by rw[Hp.get_set,if_pos rfl],by rw[hg _ (by omega)];exact h.a,by rw[hg _ (by omega)];exact h.f,by rw[hg _ (by omega)];exact h.t,by rw[hg _ (by omega)];exact h.n,h.nodes.keep (fun _ _ h=>h) (Nat.le_refl _) fun k hk h6=>hg k (by have:=h.sS k hk;omega),hw.keep (Nat.le_refl _) fun k hk=>hg k (by have:=h1 k hk;omega),o1,o2,o3,o4,o5,fun k hk=>⟨(h.sS k hk).1,(h.sS k hk).2.1,fun e=>(h1 k e).2.2 hk⟩,fun k hk=>⟨(h1 k hk).1,(h1 k hk).2.1⟩⟩
end
namespace tyLoB
def tyF:=And.intro @tq2 (And.intro @tq3 (And.intro @tq5 (And.intro @tq9 (And.intro @zcV (And.intro @tq25 (And.intro @zg4 (And.intro @zcj (And.intro @tq61 (And.intro @zgd (And.intro @zh7 (And.intro @tq121 (And.intro @znH (And.intro @cv3_5 (And.intro @znI (And.intro @tq145 (And.intro @znJ (And.intro @znK (And.intro @bu1 (And.intro @xt0 (@xt1))))))))))))))))))))
end tyLoB
open tyLoB
noncomputable def code98:{ c:SC // slim 20 (Try.f98.body.getD .skip)=c }:=by
 refine⟨?_,?_⟩
 rotate_left
 ·simp only[Try.f98,Option.getD_some,slim,zZ,zS,z6,z7,Nat.blt,Nat.ble]
  rfl
noncomputable def code58:{ c:SC // slim 69 (Try.f58.body.getD .skip)=c }:=by
 refine⟨?_,?_⟩
 rotate_left
 ·simp only[Try.f58,Option.getD_some,slim,zZ,zS,z6,z7,Nat.blt,Nat.ble]
  rfl
def zq7 (f:FuncId):Bool:=Nat.beq f 98||Nat.beq f 58||Nat.beq f 59||Nat.beq f 60||Nat.beq f 61||Nat.beq f 99||Nat.beq f 100||Nat.beq f 101||Nat.beq f 102||Nat.beq f 128||Nat.beq f 129||Nat.beq f 130||Nat.beq f 140||Nat.beq f 30
structure LowT (tb:List En):Prop where
 pl:∀ f,zq7 f=true→(∀ ar,yQ tb f ar=none)∧zev tb f=false
theorem LowT.plain {tb:List En} (h:LowT tb) {f:FuncId} (hf:zq7 f=true):Plain (zK pls tb) f:=yJ (h.pl f hf).1 (h.pl f hf).2
theorem zq8 {cfg:Cfg} (hw:Plain cfg 98) (hkeep:cfg.keep 98=false) {H:Hp}{v:AV}{b:List Int}{lo:Nat} (hv:zgi H v b lo) (hb:b.length < 2 ^ 38) (n:Int) :
 zr Try.prog cfg 98 [v,.int .u64 n] H fun w H'=>zgi H' w (b++jT n 8) lo∧H.next≤H'.next∧∀ k,k < lo→H'.get k=H.get k:=by
 obtain⟨r0,i0,hve,_⟩:=id hv
 have hone:AV.one v=true:=by rw[hve];rfl
 clear hve
 refine zj (M:=20) (rs:=[.tmp 4]) (hw.call _) hw.ice hw.froz Try.func98 rfl rfl code98.2 rfl ?_;dsimp only[code98,zO,Nat.reduceAdd]
 repeat' (first
  | (apply Rx.nl ?_;clear hK K)|apply Rx.o ?_|apply Wp.seq ?_|(apply zd fun K hK=>?_)|apply Wp.block ?_|apply zh ?_|apply Rx.rt ?_|apply zk ?_)
 refine yd [1] [] 5 8 (fun i E H2=>∃ w,E.at 0=w∧zgi H2 w (b++jT n i) lo∧∀ k,k < lo→H2.get k=H.get k) eE ⟨v,eE,by simpa [jT]using hv,fun _ _=>rfl⟩ ?_
 rintro i E H2 hi hcE hrH hnH hsI ⟨w,k0,hw2,hold⟩
 (try simp only[zi,zl,and_true,sB,sO,Nat.reduceBEq,Nat.reduceAdd,Nat.reduceLeDiff,tyF, *]at hcE)
 (try simp only[zi,zl,and_true,sB,sO,Nat.reduceBEq,Nat.reduceAdd,Nat.reduceLeDiff,tyF, *]at hrH)
 (try simp only[zb,ze,zH,Nat.zero_add,Nat.reduceAdd]at hnH)
 by_cases hlt:i < 8
 ·have hlt':(i:Int) < 8:=by omega
  have e1:IntKind.wrap .i64 (8 * (i:Int))=((8 * i:Nat):Int):=by rw[zaV (by omega) (by omega)];omega
  have e2:IntKind.wrap .u64 ((8 * i:Nat):Int)=((8 * i:Nat):Int):=(by decide:∀ i:_root_.Fin 8,IntKind.wrap .u64 ((8 * i.val:Nat):Int)=((8 * i.val:Nat):Int)) ⟨i,hlt⟩
  have e4:∀ (D:BinOp→Sx→Sx→Option Bool) (t:TypeId),jJ Try.prog D .shr t (.int .u64 n) (.int .u64 ((8 * i:Nat):Int))=some (.int .u64 (n.fdiv (2 ^ (8 * i)))):=fun D t=>bin_shr (by omega) rfl
  repeat' (first
   | (apply Rx.nl ?_;clear hK K)|apply Ry.o ?_|(apply Ry.cd (fun hb hbp=>?_) (fun hb hbp=>?_)<;>try (cases hb;done))|apply Wp.seq ?_|(apply zd fun K hK=>?_)|apply Wp.block ?_|apply zh ?_|apply Rx.rt ?_|apply zk ?_)
  have hwb:BytN (H2.alloc (.cells [.int .u8 (zce n i)] 0 true)) w (b++jT n i) lo:=.inr (hw2.keep (Nat.le_succ _) fun k hk=>by rw[za,if_neg (by have:=(hw2.lt hk).2;omega)])
  have hlo2:lo≤H2.next:=by obtain⟨r,im,_,_,_,h1,h2⟩:=hw2;omega
  obtain⟨v5,H5,a5,s5,n5,f5,o5⟩:=zqC (r:=H2.next) (imm:=0) (zce n i) hwb (by simp only[zb];omega) (by rw[za,if_pos rfl]) (by rw[List.length_append,zac];omega)
  have n5':H2.next≤H5.next:=by simp only[zb]at n5;omega
  have o5':∀ k,k < lo→H5.get k=H.get k:=fun k hk=>by rw[f5 k hk,za,if_neg (by omega),hold k hk]
  clear n5 f5 o5
  refine WpL.append eV eV (by rw[hkeep];exact a5) ?_
  repeat' (first
   | (apply Rx.nl ?_;clear hK K)|apply Rx.o ?_|apply Wp.seq ?_|(apply zd fun K hK=>?_)|apply Wp.block ?_|apply zh ?_|apply Rx.rt ?_|apply zk ?_)
  refine⟨by omega,eL,eL,eN,(by simp only[sB,Nat.reduceBEq, *];exact zT (n:=8) (by omega) (by omega)),?_⟩
  exact⟨v5,eE,by rw[zlo,← List.append_assoc];exact s5,o5'⟩
 ·have hlt':¬ (i:Int) < 8:=by omega
  repeat' (first
   | (apply Rx.nl ?_;clear hK K)|apply Ry.o ?_|(apply Ry.cd (fun hb hbp=>?_) (fun hb hbp=>?_)<;>try (cases hb;done))|apply Wp.seq ?_|(apply zd fun K hK=>?_)|apply Wp.block ?_|apply zh ?_|apply Rx.rt ?_|apply zk ?_)
  all_goals (refine⟨eI,_,eR,?_⟩;try simp only[zp])
  have hie:i=8:=by omega
  rw[hie]at hw2
  exact⟨hw2,by omega,hold⟩
theorem zex.len' {H:Hp}{v:AV}{l:List Int}{lo:Nat} (h:zex H v l lo) (H':Hp):ye Try.prog H' 23 v=some (.int .i64 l.length):=by
 rcases h with ⟨rfl,rfl⟩|h
 ·exact ja Try.underlying23
 ·exact h.len
theorem nd_own {S:Nat→Prop}{H:Hp}{kv:AV}{kids:List Int}{lo:Nat} (op imm:Int) (hk:zex H kv kids lo) (hS:∀ k,yq kv k→S k):ym S 2 H [.int .i64 op,.int .i64 imm,kv] (Nd.mk op imm kids).cells:=by
 refine .cons (.int _ _) (.cons (.int _ _) (.cons ?_ .nil))
 rcases hk with ⟨rfl,rfl⟩|⟨r,i,rfl,h2,h3,h4,h5⟩
 ·exact .nilS
 ·exact zpl kids (hS r ⟨_,rfl⟩) h5 h2 h3
theorem bNd3 {H:Hp}{kv:AV}{l:List Int}{lo:Nat} (h:zex H kv l lo) (a b:Int):yj Try.prog 25 [(0,.int .i64 a),(1,.int .i64 b),(2,kv)]=some (.agg [.int .i64 a,.int .i64 b,kv]):=by
 rcases h with ⟨rfl,rfl⟩|⟨r,i,rfl,_⟩<;>kernel_rfl
theorem zex.one {H:Hp}{kv:AV}{l:List Int}{lo:Nat} (h:zex H kv l lo):AV.one kv=true:=by
 rcases h with ⟨rfl,rfl⟩|⟨r,i,rfl,_⟩<;>rfl
theorem zInt:zff Try.prog 3=some (.int .i64 0):=by kernel_rfl
theorem kS:zam Try.prog 9=some .string:=by kernel_rfl
def zfP (X:Lx) (S:Nat→Prop) (vv kv:AV) (H:Hp) (n:Nd) (s:Bd) (v:AV) (H':Hp):Prop:=v=.int .i64 (zm n s).1∧∃ S' lv',RepL X H' S' (zm n s).2 lv' vv∧H.next≤H'.next∧(∀ k,k < H.next→k≠X.b→k≠X.rt→¬ S k→H'.get k=H.get k)∧∀ k,S' k→S k∨yq kv k∨H.next≤k
set_option maxRecDepth 100000 in
theorem ziB {tb:List En} (hG:LowT tb) {X:Lx}{H:Hp}{S:Nat→Prop}{s:Bd}{lv vv kv:AV} (hR:RepL X H S s lv vv) (n:Nd) (hk:zex H kv n.kids 0) (hkf:∀ k,yq kv k→X.b < k∧¬ S k∧¬ yq vv k) (hr:∀ x∈zaA s.l n,NdR x) (hlen:s.l.length < 2 ^ 36) :
 zr Try.prog (zK pls tb) 58 [.ptr X.b 0,.int .i64 n.op,.int .i64 n.imm,kv] H (zfP X S vv kv H n s):=by
 have hw:Plain (zK pls tb) 58:=hG.plain (by rfl)
 have hap:Plain (zK pls tb) 98:=hG.plain (by rfl)
 have hkeep:(zK pls tb).keep 58=false:=rfl
 have hn:NdR n:=hr n (zpb.2 (.inr rfl))
 have hnl:=hn.len
 have o1:=hR.o1
 have o2:=hR.o2
 have o3:=hR.o3
 have o4:=hR.o4
 have o5:=hR.o5
 have hkn:=hk.len'
 refine zj (M:=69) (rs:=[.tmp 8]) (hw.call _) hw.ice hw.froz Try.func58 rfl rfl code58.2 rfl ?_;dsimp only[code58,zO,Nat.reduceAdd]
 repeat' (first
  | (apply Rx.nl ?_;clear hK K)|apply Rx.o ?_|apply Wp.seq ?_|(apply zd fun K hK=>?_)|(apply zf 7 [(3,12),(5,12),(6,12)] fun K hK=>?_)|(apply yo 10 fun K hK=>?_)|(apply zw ?_;try intro _)|(apply zx ?_ ?_<;>clear hK K)|apply WpT.step ?_|apply Wp.block ?_|apply zh ?_|apply Rx.rt ?_|apply zk ?_)
 refine WpL.call rfl eVk eAk ?_;simp only[List.cons_append,List.nil_append,List.append_nil]
 refine zr.mono ?_ (zq8 hap rfl (b:=[IntKind.wrap .u8 n.op]) (lo:=H.next) ⟨H.next,0,rfl,by rw[za,if_pos rfl];rfl,Nat.zero_le _,Nat.le_refl _,by simp[zb]⟩ (by simp) _)
 rintro w H1 ⟨hw1,n1,q1⟩
 have n1':H.next≤H1.next:=by simp only[zb]at n1;omega
 have q1':∀ k,k < H.next→H1.get k=H.get k:=fun k hk=>by rw[q1 k hk,za,if_neg (by omega)]
 clear n1 q1
 dsimp only[zA]
 repeat' (first
  | (apply Rx.nl ?_;clear hK K)|apply Rx.o ?_|apply Wp.seq ?_|(apply zd fun K hK=>?_)|(apply zf 7 [(3,12),(5,12),(6,12)] fun K hK=>?_)|(apply yo 10 fun K hK=>?_)|(apply zw ?_;try intro _)|(apply zx ?_ ?_<;>clear hK K)|apply WpT.step ?_|apply Wp.block ?_|apply zh ?_|apply Rx.rt ?_|apply zk ?_)
 refine yd [0,1,2,3,8,20,21] [] 22 n.kids.length (fun j E H2=>∃ w,E.at 9=w∧zgi H2 w ([IntKind.wrap .u8 n.op]++jT (IntKind.wrap .u64 n.imm) 8++(n.kids.take j).flatMap fun k=>jT (IntKind.wrap .u64 k) 8) H.next∧Sm H.next H H2) eE ⟨w,eE,by simpa using hw1,⟨q1'⟩⟩ ?_
 rintro j E H2 hj hcE hrH hnH hsI ⟨w2,k9,hw2,hold⟩
 (try simp only[zi,zl,and_true,sB,sO,Nat.reduceBEq,Nat.reduceAdd,Nat.reduceLeDiff,tyF, *]at hcE)
 (try simp only[zi,zl,and_true,sB,sO,Nat.reduceBEq,Nat.reduceAdd,Nat.reduceLeDiff,tyF, *]at hrH)
 (try simp only[zb,ze,zH,Nat.zero_add,Nat.reduceAdd]at hnH)
 have n2':H.next≤H2.next:=by omega
 by_cases hlt:j < n.kids.length
 ·have hlt':(j:Int) < n.kids.length:=by omega
  have htk:n.kids.take (j+1)=n.kids.take j++[n.kids[j]]:=by rw[List.take_add_one,List.getElem?_eq_getElem hlt];rfl
  have hfl:((n.kids.take j).flatMap fun k=>jT (IntKind.wrap .u64 k) 8).length≤8 * j:=by
   rw[List.length_flatMap]
   simp only[zac]
   have:((n.kids.take j).map fun _=>8).sum=8 * (n.kids.take j).length:=by
    generalize n.kids.take j=q
    induction q with
    | nil=>rfl
    | cons a q ih=>simp[ih];omega
   rw[this,List.length_take];omega
  have hkb:zew H2 kv n.kids 0:=by
   rcases hk with ⟨_,h2⟩|h2
   ·rw[h2]at hlt;simp at hlt
   ·exact h2.keep (by omega) fun k hk=>hold.get k (h2.lt hk).2
  obtain⟨r,hix,hld⟩:=hkb.at hlt
  generalize n.kids[j]=kd at *
  repeat' (first
   | (apply Rx.nl ?_;clear hK K)|apply Ry.o ?_|apply Ry.on ?_|(apply Ry.cd (fun hb hbp=>?_) (fun hb hbp=>?_)<;>try (cases hb;done))|apply Wp.seq ?_|(apply zd fun K hK=>?_)|(apply zf 7 [(3,12),(5,12),(6,12)] fun K hK=>?_)|(apply yo 10 fun K hK=>?_)|(apply zw ?_;try intro _)|(apply zx ?_ ?_<;>clear hK K)|apply WpT.step ?_|apply Wp.block ?_|apply zh ?_|apply Rx.rt ?_|apply zk ?_)
  refine WpL.call rfl eVk eAk ?_;simp only[List.cons_append,List.nil_append,List.append_nil]
  refine zr.mono ?_ (zq8 hap rfl hw2 (by rw[List.length_append,List.length_append,zac,List.length_singleton];omega) _)
  rintro w3 H3 ⟨hw3,n3,q3⟩
  dsimp only[zA]
  repeat' (first
   | (apply Rx.nl ?_;clear hK K)|apply Rx.o ?_|apply Wp.seq ?_|(apply zd fun K hK=>?_)|(apply zf 7 [(3,12),(5,12),(6,12)] fun K hK=>?_)|(apply yo 10 fun K hK=>?_)|(apply zw ?_;try intro _)|(apply zx ?_ ?_<;>clear hK K)|apply WpT.step ?_|apply Wp.block ?_|apply zh ?_|apply Rx.rt ?_|apply zk ?_)
  refine⟨by omega,eL,eL,eN,(by simp only[sB,Nat.reduceBEq, *];exact zT (n:=n.kids.length) (by omega) (by omega)),?_⟩
  exact⟨w3,eE,by rw[htk,List.flatMap_append,List.flatMap_cons,List.flatMap_nil,List.append_nil,← List.append_assoc];exact hw3,⟨fun k hk=>by rw[q3 k hk];exact hold.get k hk⟩⟩
 ·have hlt':¬ (j:Int) < n.kids.length:=by omega
  have hje:n.kids.take j=n.kids:=List.take_of_length_le (by omega)
  rw[hje,← zqH]at hw2
  have hcv:=zqI hw2
  have hR2:RepL X H2 S s lv vv:=hR.keep n2' fun k hk _=>hold.get k hk
  have m2:=hR2.m
  unfold lc at m2
  have hlk:=znY (P:=Try.prog) (t:=81) Try.underlying81 kS zInt hR2.t (zbR n)
  obtain⟨f1,f2,f3⟩:=zlD hn s.l 0 (fun x hx=>hr x (zpb.2 (.inl hx)))
  clear hje hw1 q1'
  have hcv':jo Try.prog H2 61 9 w2=some (.str (zbR n)):=hcv
  clear hcv
  by_cases hin:zbl s.l n < s.l.length
  ·rw[decide_eq_true hin]at f1
   have f2:=f2 hin
   rw[f1,f2]at hlk
   repeat' (first
    | (apply Rx.nl ?_;clear hK K)|apply Ry.o ?_|apply Ry.on ?_|(apply Ry.cd (fun hb hbp=>?_) (fun hb hbp=>?_)<;>try (cases hb;done))|apply Wp.seq ?_|(apply zd fun K hK=>?_)|(apply zf 7 [(3,12),(5,12),(6,12)] fun K hK=>?_)|(apply yo 10 fun K hK=>?_)|(apply zw ?_;try intro _)|(apply zx ?_ ?_<;>clear hK K)|apply WpT.step ?_|apply Wp.block ?_|apply zh ?_|apply Rx.rt ?_|apply zk ?_)
   all_goals first
    | exact eK
    | skip
   all_goals (refine⟨eI,_,eR,?_⟩;try simp only[zp])
   have e1:zm n s=(((zbl s.l n:Nat):Int),s):=by rw[zm,zaA,if_pos hin]
   rw[zfP,e1]
   exact⟨by simp,S,lv,hR2,n2',fun k h1 _ _ _=>hold.get k h1,fun k hk=>.inl hk⟩
  ·rw[decide_eq_false hin]at f1
   have f3:=f3 hin
   have hix:zbl s.l n=s.l.length:=by have:=zhq s.l n;omega
   have hadd:zaA s.l n=s.l++[n]:=by rw[zaA,if_neg hin]
   rw[f1]at hlk
   have hll:∀ H',ye Try.prog H' 26 lv=some (.int .i64 s.l.length):=fun H'=>by
    have:=hR2.nodes.len (P:=Try.prog) (t:=26) (H':=H') Try.underlying26
    rwa [List.length_map]at this
   have hup:yZ Try.prog H2 81 (.map X.rt) (.str (zbR n)) (.int .i64 s.l.length)=some (H2.set X.rt (.map (vEs (atV (s.l++[n]) 0)))):=by
    rw[(ze7 (P:=Try.prog) (t:=81) (nm:=zbR n) Try.underlying81 kS hR2.t).1 ((ziq (zbR n) (atV s.l 0) 0).1 f1).1,← zqT]
    simp[vEs]
   have hbn:=bNd3 hk n.op n.imm
   have hone:=hk.one
   have hbs:∀ H,zI Try.prog H 26 1 [(0,.agg [.int .i64 n.op,.int .i64 n.imm,kv])]=some (.sl H.next 0 1 3,H.alloc (.cells [.int .i64 n.op,.int .i64 n.imm,kv] 0 true)):=fun H=>bsN1 H rfl (by simp only[List.all_cons,List.all_nil,hone];rfl)
   have g3:∀ k,k≠X.rt→(H2.set X.rt (.map (vEs (atV (s.l++[n]) 0)))).get k=H2.get k:=fun k hk=>by rw[Hp.get_set,if_neg hk]
   have g4:∀ k,k≠X.rt→k < H2.next→((H2.set X.rt (.map (vEs (atV (s.l++[n]) 0)))).alloc (.cells [.int .i64 n.op,.int .i64 n.imm,kv] 0 true)).get k=H2.get k:=fun k hk hl=>by rw[za,if_neg (by simp only[ze];omega),g3 k hk]
   have m3:(H2.set X.rt (.map (vEs (atV (s.l++[n]) 0)))).get X.b=some (.cells (lc X s lv vv) 0 true):=by rw[g3 _ (by omega)];exact hR2.m
   have m4:((H2.set X.rt (.map (vEs (atV (s.l++[n]) 0)))).alloc (.cells [.int .i64 n.op,.int .i64 n.imm,kv] 0 true)).get X.b=some (.cells (lc X s lv vv) 0 true):=by rw[g4 _ (by omega) (by omega)];exact hR2.m
   have g4n:((H2.set X.rt (.map (vEs (atV (s.l++[n]) 0)))).alloc (.cells [.int .i64 n.op,.int .i64 n.imm,kv] 0 true)).get H2.next=some (.cells [.int .i64 n.op,.int .i64 n.imm,kv] 0 true):=by rw[za,if_pos (by rfl)]
   have hkS:∀ k,yq kv k→k < H.next:=fun k hk2=>(hk.lt hk2).2
   obtain⟨H5,a5,s5,n5,q5⟩:=zfO (P:=Try.prog) (t:=26) Try.underlying26 sz25 bt25 zr25 rfl (by kernel_rfl) (S':=fun k=>S k∨yq kv k∨k=H2.next+1)
    (hR2.nodes.keep (S':=S) (H':=(H2.set X.rt (.map (vEs (atV (s.l++[n]) 0)))).alloc (.cells [.int .i64 n.op,.int .i64 n.imm,kv] 0 true)) (fun _ _ h=>h) (Nat.le_succ _) fun k hk h6=>g4 k (by have:=(hR2.sS k hk).1;omega) h6)
    (fun k _ h=>.inl h) (.inr (.inr rfl)) (r:=H2.next) (imm:=0) (row:=[.int .i64 n.op,.int .i64 n.imm,kv]) (w:=n.cells) g4n rfl (by simp only[List.all_cons,List.all_nil,hone];rfl)
    (nd_own n.op n.imm (lo:=0) (hk.keep (by simp only[zb,ze];omega) fun k hk2=>by rw[g4 k (by have:=(hkf k hk2).1;omega) (by have:=hkS k hk2;omega)];exact hold.get k (hkS k hk2)) fun k hk2=>⟨.inr (.inl hk2),fun o m z' e=>(hkf k hk2).2.1 (by
      rcases hR2.nodes with ⟨h1,_⟩|⟨q,im,rows,h1,h2,_⟩
      ·rw[h1]at e;cases e
      ·rw[h1]at e
       simp only[AV.sl.injEq]at e
       rw[← e.1];exact h2)⟩)
    (by rw[List.length_map,show zW=70368744177664 from rfl];omega) (by rw[List.length_map,show zW=70368744177664 from rfl];omega)
   rw[List.length_map]at a5 s5
   simp only[zb,ze]at a5 s5 n5 q5
   have hno:∀ k,(¬ S k)→∀ o m z',lv≠.sl k o m z':=fun k hk o m z' e=>hk (by
    rcases hR2.nodes with ⟨h1,_⟩|⟨q,im,rows,h1,h2,_⟩
    ·rw[h1]at e;cases e
    ·rw[h1]at e
     simp only[AV.sl.injEq]at e
     rw[← e.1];exact h2)
   have m5:H5.get X.b=some (.cells (lc X s lv vv) 0 true):=by rw[q5 _ (by omega) (hno _ fun e=>by have:=(hR2.sS _ e).1;omega)];exact m4
   have hlo:∀ k,k < H2.next→k≠X.rt→¬ S k→H5.get k=H2.get k:=fun k h1 h2 h3=>by rw[q5 _ (by omega) (hno _ h3)];exact g4 k h2 h1
   have t5:H5.get X.rt=some (.map (vEs (atV (s.l++[n]) 0))):=by rw[q5 _ (by omega) (hno _ fun e=>by have:=(hR2.sS _ e).1;omega),za,if_neg (by simp only[ze];omega),Hp.get_set,if_pos rfl]
   have hpo:zm n s=(((zbl s.l n:Nat):Int),{ s with l:=s.l++[n] }):=by rw[zm,hadd]
   have fin:zfP X S vv kv H n s (.int .i64 s.l.length) (H5.set X.b (.cells (lc X { s with l:=s.l++[n] } (.sl (H2.next+1) 0 (s.l.length+1) 3) vv) 0 true)):=by
    rw[zfP,hpo,hix]
    have g6:∀ k,k≠X.b→(H5.set X.b (.cells (lc X { s with l:=s.l++[n] } (.sl (H2.next+1) 0 (s.l.length+1) 3) vv) 0 true)).get k=H5.get k:=fun k hk=>by rw[Hp.get_set,if_neg hk]
    refine⟨rfl,fun k=>S k∨yq kv k∨k=H2.next+1,_,⟨by rw[Hp.get_set,if_pos rfl],?_,?_,?_,?_,?_,?_,o1,o2,o3,o4,?_,?_,?_⟩,?_,?_,?_⟩
    ·rw[g6 _ (by omega),hlo _ (by omega) (by omega) fun e=>by have:=(hR2.sS _ e).1;omega];exact hR2.a
    ·rw[g6 _ (by omega),hlo _ (by omega) (by omega) fun e=>by have:=(hR2.sS _ e).1;omega];exact hR2.f
    ·rw[g6 _ (by omega)];exact t5
    ·rw[g6 _ (by omega),hlo _ (by omega) (by omega) fun e=>by have:=(hR2.sS _ e).1;omega];exact hR2.n
    ·have e:(s.l++[n]).map Nd.cells=s.l.map Nd.cells++[n.cells]:=by simp
     rw[e]
     refine s5.keep (fun _ _ h=>h) (Nat.le_refl _) fun k hk _=>g6 k ?_
     rcases hk with hk|hk|hk
     ·have:=(hR2.sS _ hk).1;omega
     ·have:=(hkf _ hk).1;omega
     ·omega
    ·exact hR2.vars.keep (by simp only[ze];omega) fun k hk=>by rw[g6 k (by have:=(hR2.vS k hk).1;omega),hlo k (hR2.vS k hk).2 (by have:=(hR2.vS k hk).1;omega) fun e=>(hR2.sS k e).2.2 hk]
    ·simp only[ze];omega
    ·rintro k (hk|hk|hk)
     ·have:=hR2.sS k hk
      exact⟨this.1,by simp only[ze];omega,this.2.2⟩
     ·have:=hkf k hk
      have h2:=hkS k hk
      exact⟨this.1,by simp only[ze];omega,this.2.2⟩
     ·refine⟨by omega,by simp only[ze];omega,fun e=>?_⟩
      have:=(hR2.vS k e).2
      omega
    ·intro k hk
     have:=hR2.vS k hk
     simp only[ze];omega
    ·simp only[ze];omega
    ·intro k h1 h2 h3 h4
     rw[g6 k h2,hlo k (by omega) h3 h4];exact hold.get k h1
    ·rintro k (hk|hk|hk)
     ·exact .inl hk
     ·exact .inr (.inl hk)
     ·exact .inr (.inr (by omega))
   unfold lc at m3 m4 m5 fin
   clear s5 hlo t5 g3 g4 q5 hkS
   repeat' (first
    | (apply Rx.nl ?_;clear hK K)|apply Ry.o ?_|apply Ry.on ?_|(apply Ry.cd (fun hb hbp=>?_) (fun hb hbp=>?_)<;>try (cases hb;done))|apply Wp.seq ?_|(apply zd fun K hK=>?_)|(apply zf 7 [(3,12),(5,12),(6,12)] fun K hK=>?_)|(apply yo 10 fun K hK=>?_)|(apply zw ?_;try intro _)|(apply zx ?_ ?_<;>clear hK K)|apply WpT.step ?_|apply Wp.block ?_|apply zh ?_|apply Rx.rt ?_|apply zk ?_)
   all_goals first
    | exact eK
    | skip
   all_goals (refine⟨eI,_,eR,?_⟩;try simp only[zp])
   exact fin
end Go.Proofs.Ytpbcimfiofmoeaa
namespace Go.Proofs.Ytpbcimfiofmoeaa
set_option maxRecDepth 20000
set_option maxRecDepth 20000
open Go Go.Ab
namespace tyLoC
def tyF:=And.intro @tq3 (And.intro @tq9 (And.intro @zcV (And.intro @zg4 (And.intro @zgb (And.intro @zgc (And.intro @zcj (And.intro @zld (And.intro @zgd (@zh7)))))))))
end tyLoC
open tyLoC
noncomputable def code59:{ c:SC // slim 8 (Try.f59.body.getD .skip)=c }:=by
 refine⟨?_,?_⟩
 rotate_left
 ·simp only[Try.f59,Option.getD_some,slim,zZ,zS,z6,z7,Nat.blt,Nat.ble]
  rfl
noncomputable def zuM:{ c:SC // slim 18 (Try.f102.body.getD .skip)=c }:=by
 refine⟨?_,?_⟩
 rotate_left
 ·simp only[Try.f102,Option.getD_some,slim,zZ,zS,z6,z7,Nat.blt,Nat.ble]
  rfl
noncomputable def zn9:{ c:SC // slim 19 (Try.f130.body.getD .skip)=c }:=by
 refine⟨?_,?_⟩
 rotate_left
 ·simp only[Try.f130,Option.getD_some,slim,zZ,zS,z6,z7,Nat.blt,Nat.ble]
  rfl
noncomputable def zuN:{ c:SC // slim 25 (Try.f100.body.getD .skip)=c }:=by
 refine⟨?_,?_⟩
 rotate_left
 ·simp only[Try.f100,Option.getD_some,slim,zZ,zS,z6,z7,Nat.blt,Nat.ble]
  rfl
def zbC (X:Lx) (S:Nat→Prop) (vv:AV) (H:Hp) (r:Int×Bd) (v:AV) (H':Hp):Prop:=v=.int .i64 r.1∧∃ S' lv',RepL X H' S' r.2 lv' vv∧FrL X S vv H S' vv H'
def zbO (X:Lx) (S:Nat→Prop) (vv:AV) (H:Hp) (r:Bd) (v:AV) (H':Hp):Prop:=∃ S' lv' vv',RepL X H' S' r lv' vv'∧FrL X S vv H S' vv' H'
def zoa (X:Lx) (S:Nat→Prop) (vv:AV) (H:Hp) (r:Bd) (v:AV) (H':Hp):Prop:=∃ S' lv',RepL X H' S' r lv' vv∧FrL X S vv H S' vv H'
theorem zfP.val {X:Lx}{S:Nat→Prop}{vv kv:AV}{H H1 H':Hp}{n:Nd}{s:Bd}{v:AV} (h:zfP X S vv kv H1 n s v H') (hf:FrL X S vv H S vv H1) (hk:∀ k,yq kv k→H.next≤k):zbC X S vv H (zm n s) v H':=by
 obtain⟨h1,S',lv',h2,h3,h4,h5⟩:=h
 refine⟨h1,S',lv',h2,Nat.le_trans hf.next h3,fun k a b c d e=>?_,fun k a=>?_,fun k a=>.inl a⟩
 ·rw[h4 k (Nat.lt_of_lt_of_le a hf.next) b c d];exact hf.get k a b c d e
 ·rcases h5 k a with a|a|a
  ·exact .inl a
  ·exact .inr (hk k a)
  ·exact .inr (Nat.le_trans hf.next a)
theorem zgo {r o n z k:Nat} (h:yq (.sl r o n z) k):k=r:=by
 obtain⟨m,e⟩:=h
 simp only[AV.sl.injEq]at e
 exact e.1.symm
theorem zfQ {k:Nat} (h:yq .nilS k):False:=by
 obtain⟨m,e⟩:=h
 cases e
theorem zaT {tb:List En} (hG:LowT tb) {X:Lx}{H H1:Hp}{S:Nat→Prop}{s:Bd}{lv vv:AV} (hR:RepL X H1 S s lv vv) (hf:FrL X S vv H S vv H1) (n:Nd) {r m:Nat} (hm:n.kids.length=m) (hg:H1.get r=some (.cells (n.kids.map (.int .i64)) 0 true)) (hr:H.next≤r) (hr2:r < H1.next) (hb:X.b < r) (hS:¬ S r) (hv:¬ yq vv r) (hF:Fin (zm n s).2) {op imm:Int} (hop:n.op=op) (him:n.imm=imm) :
 zr Try.prog (zK pls tb) 58 [.ptr X.b 0,.int .i64 op,.int .i64 imm,.sl r 0 m 1] H1 (zbC X S vv H (zm n s)):=by
 subst hm;subst hop;subst him
 refine zr.mono ?_ (ziB hG hR n (.inr ⟨r,0,rfl,hg,Nat.zero_le _,Nat.zero_le _,hr2⟩) (fun k hk=>?_) hF.r (Nat.lt_of_le_of_lt (za6 s.l n).length_le hF.l))
 ·intro v H' h
  exact h.val hf fun k hk=>by rw[zgo hk];exact hr
 ·rw[zgo hk]
  exact⟨hb,hS,hv⟩
theorem zfR {tb:List En} (hG:LowT tb) {X:Lx}{H H1:Hp}{S:Nat→Prop}{s:Bd}{lv vv:AV} (hR:RepL X H1 S s lv vv) (hf:FrL X S vv H S vv H1) (op imm:Int) (hF:Fin (zm ⟨op,imm,[]⟩ s).2) :
 zr Try.prog (zK pls tb) 58 [.ptr X.b 0,.int .i64 op,.int .i64 imm,.nilS] H1 (zbC X S vv H (zm ⟨op,imm,[]⟩ s)):=by
 refine zr.mono ?_ (ziB hG hR ⟨op,imm,[]⟩ (.inl ⟨rfl,rfl⟩) (fun k hk=>(zfQ hk).elim) hF.r (Nat.lt_of_le_of_lt (za6 s.l _).length_le hF.l))
 intro v H' h
 exact h.val hf fun k hk=>(zfQ hk).elim
theorem RepL.new {X:Lx}{H:Hp}{S:Nat→Prop}{s:Bd}{lv vv:AV} (h:RepL X H S s lv vv) {r:Nat} (hr:H.next≤r):¬ S r∧¬ yq vv r∧X.b < r:=⟨fun e=>by have:=(h.sS r e).2.1;omega,fun e=>by have:=(h.vS r e).2;omega,by have:=h.o5;omega⟩
theorem zbC.pre {X:Lx}{S S0:Nat→Prop}{vv:AV}{H H0:Hp}{r:Int×Bd}{v:AV}{H':Hp} (h:zbC X S vv H r v H') (hf:FrL X S0 vv H0 S vv H):zbC X S0 vv H0 r v H':=by
 obtain⟨h1,S',lv',h2,h3⟩:=h
 exact⟨h1,S',lv',h2,hf.trans h3⟩
theorem zc1 {tb:List En} (hG:LowT tb) {X:Lx}{H H1:Hp}{S:Nat→Prop}{s:Bd}{lv vv:AV} (hR:RepL X H1 S s lv vv) (hf:FrL X S vv H S vv H1) (n:Int) (hF:Fin (zm ⟨1,n,[]⟩ s).2) :
 zr Try.prog (zK pls tb) 59 [.ptr X.b 0,.int .i64 n] H1 (zbC X S vv H (zm ⟨1,n,[]⟩ s)):=by
 have hw:Plain (zK pls tb) 59:=hG.plain (by rfl)
 refine zj (M:=8) (rs:=[.tmp 4]) (hw.call _) hw.ice hw.froz Try.func59 rfl rfl code59.2 rfl ?_;dsimp only[code59,zO,Nat.reduceAdd]
 repeat' (first
  | (apply Rx.nl ?_;clear hK K)|apply Rx.o ?_|apply Wp.seq ?_|(apply zd fun K hK=>?_)|apply Rx.rt ?_)
 refine WpL.call rfl eVk eAk ?_;simp only[List.cons_append,List.nil_append,List.append_nil]
 refine zr.mono ?_ (zfR hG hR hf 1 n hF)
 rintro v H2 h2
 obtain⟨rfl,h3⟩:=id h2
 dsimp only[zA]
 repeat' (first
  | (apply Rx.nl ?_;clear hK K)|apply Rx.o ?_|apply Wp.seq ?_|(apply zd fun K hK=>?_)|apply Rx.rt ?_)
 all_goals (refine⟨eI,_,eR,?_⟩;try simp only[zp])
 exact h2
theorem bI2 (H:Hp) (a b:Int):zI Try.prog H 23 2 [(0,.int .i64 a),(1,.int .i64 b)]=some (.sl H.next 0 2 1,H.alloc (.cells [.int .i64 a,.int .i64 b] 0 true)):=by kernel_rfl
theorem bI3 (H:Hp) (a b c:Int):zI Try.prog H 23 3 [(0,.int .i64 a),(1,.int .i64 b),(2,.int .i64 c)]=some (.sl H.next 0 3 1,H.alloc (.cells [.int .i64 a,.int .i64 b,.int .i64 c] 0 true)):=by kernel_rfl
theorem bI1 (H:Hp) (a:Int):zI Try.prog H 23 1 [(0,.int .i64 a)]=some (.sl H.next 0 1 1,H.alloc (.cells [.int .i64 a] 0 true)):=by kernel_rfl
theorem zfS {tb:List En} (hG:LowT tb) {X:Lx}{H H1:Hp}{S:Nat→Prop}{s:Bd}{lv vv:AV} (hR:RepL X H1 S s lv vv) (hf:FrL X S vv H S vv H1) (t v:Int) (hF:Fin (zbA t v s)) :
 zr Try.prog (zK pls tb) 102 [.ptr X.b 0,.int .i64 t,.int .i64 v] H1 (zoa X S vv H (zbA t v s)):=by
 have hw:Plain (zK pls tb) 102:=hG.plain (by rfl)
 have m1:=hR.m
 unfold lc at m1
 refine zj (M:=18) (rs:=[]) (hw.call _) hw.ice hw.froz Try.func102 rfl rfl zuM.2 rfl ?_;dsimp only[zuM,zO,Nat.reduceAdd]
 have gh0:=@bI2
 repeat' (first
  | (apply Rx.nl ?_;clear hK K)|apply Rx.o ?_|apply Rx.on ?_|(apply zd fun K hK=>?_))
 refine WpL.call rfl eVk eAk ?_;simp only[List.cons_append,List.nil_append,List.append_nil]
 have nw:=hR.new (Nat.le_refl _)
 refine zr.mono ?_ (zaT hG (hR.alloc _) (hf.alloc _) ⟨27,t,[s.state,v]⟩ rfl (by rw[za,if_pos rfl];rfl) hf.next (Nat.lt_succ_self _) nw.2.2 nw.1 nw.2.1 (hF.le ⟨List.prefix_refl _,Nat.le_refl _⟩) rfl rfl)
 rintro w H2 ⟨rfl,S2,lv2,R2,F2⟩
 have m2:=R2.m
 unfold lc at m2
 dsimp only[zA]
 repeat' (first
  | (apply Rx.nl ?_;clear hK K)|apply Rx.o ?_|apply Rx.on ?_|(apply zd fun K hK=>?_))
 all_goals (refine⟨eI,_,eR,?_⟩;try simp only[zp])
 obtain⟨a,b⟩:=R2.setS (zm ⟨27,t,[s.state,v]⟩ s).1
 exact⟨S2,lv2,a,F2.trans b⟩
theorem zc2 {tb:List En} (hG:LowT tb) {X:Lx}{H H1:Hp}{S:Nat→Prop}{s:Bd}{lv vv:AV} (hR:RepL X H1 S s lv vv) (hf:FrL X S vv H S vv H1) (c a b:Int) (hF:Fin (zt c a b s).2) :
 zr Try.prog (zK pls tb) 130 [.ptr X.b 0,.int .i64 c,.int .i64 a,.int .i64 b] H1 (zbC X S vv H (zt c a b s)):=by
 have hw:Plain (zK pls tb) 130:=hG.plain (by rfl)
 by_cases h:a=b
 ·subst h
  have e:zt c a a s=(a,s):=by rw[zt,if_pos rfl]
  rw[e]
  refine zj (M:=19) (rs:=[.tmp 8]) (hw.call _) hw.ice hw.froz Try.func130 rfl rfl zn9.2 rfl ?_;dsimp only[zn9,zO,Nat.reduceAdd]
  repeat' (first
   | (apply Rx.nl ?_;clear hK K)|apply Ry.o ?_|(apply Ry.cd (fun hb hbp=>?_) (fun hb hbp=>?_)<;>try (cases hb;done))|apply Wp.seq ?_|(apply zd fun K hK=>?_)|apply zh ?_|apply Rx.rt ?_)
  all_goals (refine⟨eI,_,eR,?_⟩;try simp only[zp])
  exact⟨rfl,S,lv,hR,hf⟩
 ·have e:zt c a b s=zm ⟨22,0,[c,a,b]⟩ s:=by rw[zt,if_neg h]
  rw[e]at hF ⊢
  have nw:=hR.new (Nat.le_refl _)
  refine zj (M:=19) (rs:=[.tmp 8]) (hw.call _) hw.ice hw.froz Try.func130 rfl rfl zn9.2 rfl ?_;dsimp only[zn9,zO,Nat.reduceAdd]
  have gh0:=@bI3
  repeat' (first
   | (apply Rx.nl ?_;clear hK K)|apply Ry.o ?_|(apply Ry.cd (fun hb hbp=>?_) (fun hb hbp=>?_)<;>try (cases hb;done))|apply Wp.seq ?_|(apply zd fun K hK=>?_)|apply zh ?_|apply Rx.rt ?_)
  refine WpL.call rfl eVk eAk ?_;simp only[List.cons_append,List.nil_append,List.append_nil]
  refine zr.mono ?_ (zaT hG (hR.alloc _) (hf.alloc _) ⟨22,0,[c,a,b]⟩ rfl (by rw[za,if_pos rfl];rfl) hf.next (Nat.lt_succ_self _) nw.2.2 nw.1 nw.2.1 hF rfl rfl)
  intro w H2 h2
  obtain⟨rfl,h3⟩:=id h2
  dsimp only[zA]
  repeat' (first
   | (apply Rx.nl ?_;clear hK K)|apply Rx.o ?_|apply Wp.seq ?_|(apply zd fun K hK=>?_)|apply zh ?_|apply Rx.rt ?_)
  all_goals (refine⟨eI,_,eR,?_⟩;try simp only[zp])
  exact h2
theorem ziC {tb:List En} (hG:LowT tb) {X:Lx}{H H1:Hp}{S:Nat→Prop}{s:Bd}{lv vv:AV} (hR:RepL X H1 S s lv vv) (hf:FrL X S vv H S vv H1) (k:Nat) (i:Int) {a:Ar} (ha:X.p.arrays[k]?=some a) (hF:Fin (zaL a.len i s)) :
 zr Try.prog (zK pls tb) 100 [.ptr X.b 0,.int .i64 (k:Int),.int .i64 i] H1 (zoa X S vv H (zaL a.len i s)):=by
 have hw:Plain (zK pls tb) 100:=hG.plain (by rfl)
 have m1:=hR.m
 unfold lc at m1
 have hF2:Fin (zm ⟨19,0,[i,(zm ⟨1,a.len,[]⟩ s).1]⟩ (zm ⟨1,a.len,[]⟩ s).2).2:=hF.le (za7 _ _ _).le
 have hF1:Fin (zm ⟨1,a.len,[]⟩ s).2:=hF2.le (zV _ _).le
 refine zj (M:=25) (rs:=[]) (hw.call _) hw.ice hw.froz Try.func100 rfl rfl zuN.2 rfl ?_;dsimp only[zuN,zO,Nat.reduceAdd]
 repeat' (first
  | (apply Rx.nl ?_;clear hK K)|apply Rx.o ?_|apply Wp.seq ?_|(apply zd fun K hK=>?_))
 refine WpL.call rfl eVk eAk ?_;simp only[List.cons_append,List.nil_append,List.append_nil]
 refine zr.mono ?_ (zc1 hG hR hf a.len hF1)
 rintro w H2 ⟨rfl,S2,lv2,R2,F2⟩
 dsimp only[zA]
 have nw:=R2.new (Nat.le_refl _)
 have gh0:=@bI2
 repeat' (first
  | (apply Rx.nl ?_;clear hK K)|apply Rx.o ?_|apply Wp.seq ?_|(apply zd fun K hK=>?_))
 refine WpL.call rfl eVk eAk ?_;simp only[List.cons_append,List.nil_append,List.append_nil]
 refine zr.mono ?_ (zaT hG (R2.alloc _) ((FrL.refl _ _ _ _).alloc _) ⟨19,0,[i,(zm ⟨1,a.len,[]⟩ s).1]⟩ rfl (by rw[za,if_pos rfl];rfl) (Nat.le_refl _) (Nat.lt_succ_self _) nw.2.2 nw.1 nw.2.1 hF2 rfl rfl)
 rintro w H3 ⟨rfl,S3,lv3,R3,F3⟩
 dsimp only[zA]
 repeat' (first
  | (apply Rx.nl ?_;clear hK K)|apply Rx.o ?_|apply Wp.seq ?_|(apply zd fun K hK=>?_))
 refine WpL.call rfl eVk eAk ?_;simp only[List.cons_append,List.nil_append,List.append_nil]
 refine zr.mono ?_ (zfS hG R3 (FrL.refl _ _ _ _) 2 _ hF)
 rintro w H4 ⟨S4,lv4,R4,F4⟩
 dsimp only[zA]
 repeat' (first
  | (apply Rx.nl ?_;clear hK K)|apply Rx.o ?_|apply Wp.seq ?_|(apply zd fun K hK=>?_))
 all_goals (refine⟨eI,_,eR,?_⟩;try simp only[zp])
 exact⟨S4,lv4,R4,F2.trans (F3.trans F4)⟩
end Go.Proofs.Ytpbcimfiofmoeaa
namespace Go.Proofs.Ytpbcimfiofmoeaa
set_option maxRecDepth 20000
set_option maxRecDepth 20000
open Go Go.Ab
namespace tyLoD
def tyF:=And.intro @tq2 (And.intro @tq3 (And.intro @tq9 (And.intro @zcV (And.intro @zg4 (And.intro @zcj (And.intro @zba (And.intro @zau (And.intro @zgd (And.intro @zh7 (And.intro @bI2 (@bI1)))))))))))
end tyLoD
open tyLoD
noncomputable def zgp:{ c:SC // slim 110 (Try.f61.body.getD .skip)=c }:=by
 refine⟨?_,?_⟩
 rotate_left
 ·simp only[Try.f61,Option.getD_some,slim,zZ,zS,z6,z7,Nat.blt,Nat.ble]
  rfl
noncomputable def zuO:{ c:SC // slim 58 (Try.f101.body.getD .skip)=c }:=by
 refine⟨?_,?_⟩
 rotate_left
 ·simp only[Try.f101,Option.getD_some,slim,zZ,zS,z6,z7,Nat.blt,Nat.ble]
  rfl
structure CxOk (X:Lx) (c:Cx):Prop where
 ar:c.arrays=X.p.arrays
 ae:∀ nm,lkV X.ae nm=ixS (c.arrays.map (·.name)) nm
 ne:∀ nm,lkV X.ne nm=ixS c.names nm
 fe:∀ nm,0≤yw c.funcs nm 0→lkV X.fe nm=yw c.funcs nm 0
theorem FrL.box {X:Lx}{H1 H2:Hp}{S S2:Nat→Prop}{s:Bd}{lv vv vv2:AV} (hR:RepL X H1 S s lv vv) {b:HB} (h:FrL X S vv (H1.alloc b) S2 vv2 H2):H2.get H1.next=some b:=by
 have n:=hR.new (Nat.le_refl _)
 have o3:=hR.o3
 have o4:=hR.o4
 rw[h.get _ (Nat.lt_succ_self _) (by have:=n.2.2;omega) (by have:=n.2.2;omega) n.1 n.2.1,za,if_pos rfl]
theorem RepL.lkN {X:Lx}{c:Cx} (hX:CxOk X c) {H:Hp}{S:Nat→Prop}{s:Bd}{lv vv:AV} (hR:RepL X H S s lv vv) (nm:Nm):ji Try.prog H 81 (.map X.rn) (.str nm) false=some (.int .i64 (ixS c.names nm)):=by
 rw[← hX.ne]
 exact zip (P:=Try.prog) Try.underlying81 kS zInt hR.n nm
theorem RepL.lkA {X:Lx}{c:Cx} (hX:CxOk X c) {H:Hp}{S:Nat→Prop}{s:Bd}{lv vv:AV} (hR:RepL X H S s lv vv) (nm:Nm):ji Try.prog H 81 (.map X.ra) (.str nm) false=some (.int .i64 (ixS (c.arrays.map (·.name)) nm)):=by
 rw[← hX.ae]
 exact zip (P:=Try.prog) Try.underlying81 kS zInt hR.a nm
theorem RepL.lkF {X:Lx}{c:Cx} (hX:CxOk X c) {H:Hp}{S:Nat→Prop}{s:Bd}{lv vv:AV} (hR:RepL X H S s lv vv) (nm:Nm) (h:0≤yw c.funcs nm 0):ji Try.prog H 81 (.map X.rf) (.str nm) false=some (.int .i64 (yw c.funcs nm 0)):=by
 rw[← hX.fe nm h]
 exact zip (P:=Try.prog) Try.underlying81 kS zInt hR.f nm
theorem RepL.atV {X:Lx}{H:Hp}{S:Nat→Prop}{s:Bd}{lv vv:AV} (h:RepL X H S s lv vv) {i:Nat}{x:Int} (hi:s.vars[i]?=some x):∃ r,zq Try.prog 23 vv (.int .i64 (i:Int))=some (.ptr r i)∧zaZ Try.prog H 3 (.ptr r i)=some (.int .i64 x):=by
 have hlt:i < s.vars.length:=by
  by_cases c:i < s.vars.length
  ·exact c
  ·rw[List.getElem?_eq_none (by omega)]at hi;cases hi
 obtain⟨r,h1,h2,_⟩:=h.setV hlt 0
 refine⟨r,h1,?_⟩
 rw[h2,List.getD_eq_getElem?_getD,hi];rfl
set_option maxRecDepth 100000 in
theorem zaM {tb:List En} (hG:LowT tb) {X:Lx}{c:Cx} (hX:CxOk X c):∀ (n:Nat) (x:Ex) (s:Bd) (r:Int×Bd),exL c n x s=some r→Fin r.2→∀ {H H1:Hp}{S:Nat→Prop}{lv vv:AV},RepL X H1 S s lv vv→FrL X S vv H S vv H1 →
 zr Try.prog (zK pls tb) 61 [.ptr X.b 0,.agg x.cells] H1 (zbC X S vv H r)
 | 0,x,s,r,h,_,_,_,_,_,_,_,_=>by simp[exL]at h
 | n+1,x,s,r,h,hF,H,H1,S,lv,vv,hR,hf=>by
   have IH:=zaM hG hX n
   have hw:Plain (zK pls tb) 61:=hG.plain (by rfl)
   have hwc:Plain (zK pls tb) 101:=hG.plain (by rfl)
   have R1:=hR.alloc (.cells x.cells 0 true)
   have F1:=hf.alloc (.cells x.cells 0 true)
   have m1:=R1.m
   unfold lc at m1
   have nw:=hR.new (Nat.le_refl _)
   unfold exL at h
   by_cases h1:x.kind=1
   ·rw[if_pos h1,Option.some.injEq]at h
    subst h
    refine zj (M:=110) (rs:=[.tmp 4]) (hw.call _) hw.ice hw.froz Try.func61 rfl rfl zgp.2 rfl ?_;dsimp only[zgp,zO,Nat.reduceAdd]
    repeat' (first
     | (apply Rx.nl ?_;clear hK K)|apply Ry.o ?_|(apply Ry.gd (fun hg hgp=>?_) (fun hg hgp=>?_)<;>try (cases hg;done))|(apply Ry.cd (fun hb hbp=>?_) (fun hb hbp=>?_)<;>try (cases hb;done))|apply Wp.seq ?_|(apply zd fun K hK=>?_)|(apply zf 5 [(3,14),(7,14),(9,14),(10,14),(12,14)] fun K hK=>?_)|(apply zf 7 [(2,5),(4,5),(9,5),(9,15),(11,5),(11,15),(12,5),(12,15)] fun K hK=>?_)|(apply zw ?_;try intro _)|(apply zx ?_ ?_<;>clear hK K)|apply WpT.step ?_|apply Wp.block ?_|apply zh ?_|apply Rx.rt ?_)
    refine WpL.call rfl eVk eAk ?_;simp only[List.cons_append,List.nil_append,List.append_nil]
    refine zr.mono ?_ (zc1 hG R1 F1 x.n hF)
    intro w H2 h2
    obtain⟨rfl,h3⟩:=id h2
    dsimp only[zA]
    repeat' (first
     | (apply Rx.nl ?_;clear hK K)|apply Rx.o ?_|apply Wp.seq ?_|(apply zd fun K hK=>?_)|(apply zf 5 [(3,14),(7,14),(9,14),(10,14),(12,14)] fun K hK=>?_)|(apply zf 7 [(2,5),(4,5),(9,5),(9,15),(11,5),(11,15),(12,5),(12,15)] fun K hK=>?_)|(apply zw ?_;try intro _)|(apply zx ?_ ?_<;>clear hK K)|apply WpT.step ?_|apply Wp.block ?_|apply zh ?_|apply Rx.rt ?_)
    all_goals (refine⟨eI,_,eR,?_⟩;try simp only[zp])
    exact h2
   rw[if_neg h1]at h
   by_cases h2:x.kind=2
   ·rw[if_pos h2]at h
    obtain⟨v,hv,rfl⟩:=Option.map_eq_some_iff.1 h
    have hlk:=R1.lkN hX x.name
    obtain⟨q,hix,hld⟩:=R1.atV hv
    refine zj (M:=110) (rs:=[.tmp 4]) (hw.call _) hw.ice hw.froz Try.func61 rfl rfl zgp.2 rfl ?_;dsimp only[zgp,zO,Nat.reduceAdd]
    repeat' (first
     | (apply Rx.nl ?_;clear hK K)|apply Ry.o ?_|(apply Ry.gd (fun hg hgp=>?_) (fun hg hgp=>?_)<;>try (cases hg;done))|(apply Ry.cd (fun hb hbp=>?_) (fun hb hbp=>?_)<;>try (cases hb;done))|apply Wp.seq ?_|(apply zd fun K hK=>?_)|(apply zf 5 [(3,14),(7,14),(9,14),(10,14),(12,14)] fun K hK=>?_)|(apply zf 7 [(2,5),(4,5),(9,5),(9,15),(11,5),(11,15),(12,5),(12,15)] fun K hK=>?_)|(apply zw ?_;try intro _)|(apply zx ?_ ?_<;>clear hK K)|apply WpT.step ?_|apply Wp.block ?_|apply zh ?_|apply Rx.rt ?_)
    all_goals first
     | exact eK
     | skip
    all_goals (refine⟨eI,_,eR,?_⟩;try simp only[zp])
    exact⟨rfl,S,lv,R1,F1⟩
   rw[if_neg h2]at h
   by_cases h3:x.kind=3
   ·rw[if_pos h3]at h
    simp only[Option.bind_eq_some_iff,Option.some.injEq]at h
    obtain⟨k,hk,r1,he,a,ha,rfl⟩:=h
    have ha':X.p.arrays[ixS (c.arrays.map (·.name)) x.name]?=some a:=by rw[← hX.ar];exact ha
    have hFc:Fin (zaL a.len r1.1 r1.2):=hF.le (zV _ _).le
    have hlk1:=R1.lkA hX x.name
    refine zj (M:=110) (rs:=[.tmp 4]) (hw.call _) hw.ice hw.froz Try.func61 rfl rfl zgp.2 rfl ?_;dsimp only[zgp,zO,Nat.reduceAdd]
    repeat' (first
     | (apply Rx.nl ?_;clear hK K)|apply Ry.o ?_|(apply Ry.gd (fun hg hgp=>?_) (fun hg hgp=>?_)<;>try (cases hg;done))|(apply Ry.cd (fun hb hbp=>?_) (fun hb hbp=>?_)<;>try (cases hb;done))|apply Wp.seq ?_|(apply zd fun K hK=>?_)|(apply zf 5 [(3,14),(7,14),(9,14),(10,14),(12,14)] fun K hK=>?_)|(apply zf 7 [(2,5),(4,5),(9,5),(9,15),(11,5),(11,15),(12,5),(12,15)] fun K hK=>?_)|(apply zw ?_;try intro _)|(apply zx ?_ ?_<;>clear hK K)|apply WpT.step ?_|apply Wp.block ?_|apply zh ?_|apply Rx.rt ?_)
    refine WpL.call rfl eVk eAk ?_;simp only[List.cons_append,List.nil_append,List.append_nil]
    refine zr.mono ?_ (IH k s r1 he (hFc.le (zdt _ _ _).le) R1 (FrL.refl _ _ _ _))
    rintro v H2 ⟨rfl,S2,lv2,R2,F2⟩
    have g2:=FrL.box hR F2
    have m2:=R2.m
    unfold lc at m2
    have hlk:=R2.lkA hX x.name
    have n2:H1.next+1≤H2.next:=F2.next
    dsimp only[zA]
    repeat' (first
     | (apply Rx.nl ?_;clear hK K)|apply Rx.o ?_|apply Wp.seq ?_|(apply zd fun K hK=>?_)|(apply zf 5 [(3,14),(7,14),(9,14),(10,14),(12,14)] fun K hK=>?_)|(apply zf 7 [(2,5),(4,5),(9,5),(9,15),(11,5),(11,15),(12,5),(12,15)] fun K hK=>?_)|(apply zw ?_;try intro _)|(apply zx ?_ ?_<;>clear hK K)|apply WpT.step ?_|apply Wp.block ?_|apply zh ?_|apply Rx.rt ?_)
    ·exact eK
    ·refine WpL.call rfl eVk eAk ?_;simp only[List.cons_append,List.nil_append,List.append_nil]
     refine zr.mono ?_ (ziC hG R2 (FrL.refl _ _ _ _) (ixS (c.arrays.map (·.name)) x.name) r1.1 ha' hFc)
     rintro w H3 ⟨S3,lv3,R3,F3⟩
     have m3:=R3.m
     unfold lc at m3
     have nw3:=R3.new (Nat.le_refl _)
     dsimp only[zA]
     repeat' (first
      | (apply Rx.nl ?_;clear hK K)|apply Rx.o ?_|apply Wp.seq ?_|(apply zd fun K hK=>?_)|(apply zf 5 [(3,14),(7,14),(9,14),(10,14),(12,14)] fun K hK=>?_)|(apply zf 7 [(2,5),(4,5),(9,5),(9,15),(11,5),(11,15),(12,5),(12,15)] fun K hK=>?_)|(apply zw ?_;try intro _)|(apply zx ?_ ?_<;>clear hK K)|apply WpT.step ?_|apply Wp.block ?_|apply zh ?_|apply Rx.rt ?_)
     refine WpL.call rfl eVk eAk ?_;simp only[List.cons_append,List.nil_append,List.append_nil]
     refine zr.mono ?_ (zaT hG (R3.alloc _) ((FrL.refl _ _ _ _).alloc _) ⟨23,ixS (c.arrays.map (·.name)) x.name,[(zaL a.len r1.1 r1.2).state,r1.1]⟩ rfl (by rw[za,if_pos rfl];rfl) (Nat.le_refl _) (Nat.lt_succ_self _) nw3.2.2 nw3.1 nw3.2.1 hF rfl rfl)
     intro w H4 h4
     have h5:=h4.pre (F1.trans (F2.trans F3))
     obtain⟨rfl,h6⟩:=h4
     dsimp only[zA]
     repeat' (first
      | (apply Rx.nl ?_;clear hK K)|apply Rx.o ?_|apply Wp.seq ?_|(apply zd fun K hK=>?_)|(apply zf 5 [(3,14),(7,14),(9,14),(10,14),(12,14)] fun K hK=>?_)|(apply zf 7 [(2,5),(4,5),(9,5),(9,15),(11,5),(11,15),(12,5),(12,15)] fun K hK=>?_)|(apply zw ?_;try intro _)|(apply zx ?_ ?_<;>clear hK K)|apply WpT.step ?_|apply Wp.block ?_|apply zh ?_|apply Rx.rt ?_)
     all_goals (refine⟨eI,_,eR,?_⟩;try simp only[zp])
     exact h5
   rw[if_neg h3]at h
   by_cases h5:x.kind=5
   ·rw[if_pos h5]at h
    simp only[Option.bind_eq_some_iff,Option.some.injEq]at h
    obtain⟨k0,hk0,r0,e0,k1,hk1,r1,e1,k2,hk2,r2,e2,rfl⟩:=h
    have hFt:Fin (zt r0.1 r1.2.state (zt r0.1 r1.1 r2.1 r2.2).2.state (zt r0.1 r1.1 r2.1 r2.2).2).2:=hF.le ⟨List.prefix_refl _,Nat.le_refl _⟩
    have hFv:Fin (zt r0.1 r1.1 r2.1 r2.2).2:=hFt.le (yf _ _ _ _).le
    have hF2:Fin r2.2:=hFv.le (yf _ _ _ _).le
    have hF1:Fin r1.2:=(hF2.le (yg c n _ _ _ e2).le).le ⟨List.prefix_refl _,Nat.le_refl _⟩
    have hF0:Fin r0.2:=hF1.le (yg c n _ _ _ e1).le
    refine zj (M:=110) (rs:=[.tmp 4]) (hw.call _) hw.ice hw.froz Try.func61 rfl rfl zgp.2 rfl ?_;dsimp only[zgp,zO,Nat.reduceAdd]
    repeat' (first
     | (apply Rx.nl ?_;clear hK K)|apply Ry.o ?_|(apply Ry.gd (fun hg hgp=>?_) (fun hg hgp=>?_)<;>try (cases hg;done))|(apply Ry.cd (fun hb hbp=>?_) (fun hb hbp=>?_)<;>try (cases hb;done))|apply Wp.seq ?_|(apply zd fun K hK=>?_)|(apply zf 5 [(3,14),(7,14),(9,14),(10,14),(12,14)] fun K hK=>?_)|(apply zf 7 [(2,5),(4,5),(9,5),(9,15),(11,5),(11,15),(12,5),(12,15)] fun K hK=>?_)|(apply zw ?_;try intro _)|(apply zx ?_ ?_<;>clear hK K)|apply WpT.step ?_|apply Wp.block ?_|apply zh ?_|apply Rx.rt ?_)
    refine WpL.call rfl eVk eAk ?_;simp only[List.cons_append,List.nil_append,List.append_nil]
    have R1c:=R1.alloc (.cells x.cells 0 true)
    have F1c:=F1.alloc (.cells x.cells 0 true)
    have main:zr Try.prog (zK pls tb) 101 [.ptr X.b 0,.agg x.cells] (H1.alloc (.cells x.cells 0 true)) (zbC X S vv H ((zt r0.1 r1.1 r2.1 r2.2).1,{ (zt r0.1 r1.2.state (zt r0.1 r1.1 r2.1 r2.2).2.state (zt r0.1 r1.1 r2.1 r2.2).2).2 with state:=(zt r0.1 r1.2.state (zt r0.1 r1.1 r2.1 r2.2).2.state (zt r0.1 r1.1 r2.1 r2.2).2).1 })):=by
     clear m1 nw
     refine zj (M:=58) (rs:=[.tmp 4]) (hwc.call _) hwc.ice hwc.froz Try.func101 rfl rfl zuO.2 rfl ?_;dsimp only[zuO,zO,Nat.reduceAdd]
     repeat' (first
      | (apply Rx.nl ?_;clear hK K)|apply Ry.o ?_|apply Ry.on ?_|apply Wp.seq ?_|(apply zd fun K hK=>?_)|apply zh ?_|apply Rx.rt ?_)
     refine WpL.call rfl eVk eAk ?_;simp only[List.cons_append,List.nil_append,List.append_nil]
     refine zr.mono ?_ (IH k0 s r0 e0 hF0 R1c (FrL.refl _ _ _ _))
     rintro v H2 ⟨rfl,S2,lv2,R2,F2⟩
     have g2:=FrL.box R1 F2
     simp only[zb]at g2
     have m2:=R2.m
     unfold lc at m2
     dsimp only[zA]
     repeat' (first
      | (apply Rx.nl ?_;clear hK K)|apply Ry.o ?_|apply Ry.on ?_|apply Wp.seq ?_|(apply zd fun K hK=>?_)|apply zh ?_|apply Rx.rt ?_)
     refine WpL.call rfl eVk eAk ?_;simp only[List.cons_append,List.nil_append,List.append_nil]
     refine zr.mono ?_ (IH k1 _ r1 e1 hF1 R2 (FrL.refl _ _ _ _))
     rintro v H3 ⟨rfl,S3,lv3,R3,F3⟩
     have g3:=FrL.box R1 (F2.trans F3)
     have m3:=R3.m
     obtain⟨R3s,F3s⟩:=R3.setS r0.2.state
     have g3s:=FrL.box R1 (F2.trans (F3.trans F3s))
     simp only[zb]at g3 g3s
     unfold lc at m3
     dsimp only[lc]at R3s F3s g3s
     dsimp only[zA]
     repeat' (first
      | (apply Rx.nl ?_;clear hK K)|apply Ry.o ?_|apply Ry.on ?_|apply Wp.seq ?_|(apply zd fun K hK=>?_)|apply zh ?_|apply Rx.rt ?_)
     refine WpL.call rfl eVk eAk ?_;simp only[List.cons_append,List.nil_append,List.append_nil]
     refine zr.mono ?_ (IH k2 _ r2 e2 hF2 R3s (FrL.refl _ _ _ _))
     rintro v H4 ⟨rfl,S4,lv4,R4,F4⟩
     dsimp only[zA]
     repeat' (first
      | (apply Rx.nl ?_;clear hK K)|apply Rx.o ?_|apply Rx.on ?_|apply Wp.seq ?_|(apply zd fun K hK=>?_)|apply zh ?_|apply Rx.rt ?_)
     refine WpL.call rfl eVk eAk ?_;simp only[List.cons_append,List.nil_append,List.append_nil]
     refine zr.mono ?_ (zc2 hG R4 (FrL.refl _ _ _ _) r0.1 r1.1 r2.1 hFv)
     rintro v H5 ⟨rfl,S5,lv5,R5,F5⟩
     have m5:=R5.m
     unfold lc at m5
     dsimp only[zA]
     repeat' (first
      | (apply Rx.nl ?_;clear hK K)|apply Rx.o ?_|apply Rx.on ?_|apply Wp.seq ?_|(apply zd fun K hK=>?_)|apply zh ?_|apply Rx.rt ?_)
     refine WpL.call rfl eVk eAk ?_;simp only[List.cons_append,List.nil_append,List.append_nil]
     refine zr.mono ?_ (zc2 hG R5 (FrL.refl _ _ _ _) r0.1 r1.2.state _ hFt)
     rintro v H6 ⟨rfl,S6,lv6,R6,F6⟩
     have m6:=R6.m
     unfold lc at m6
     dsimp only[zA]
     repeat' (first
      | (apply Rx.nl ?_;clear hK K)|apply Rx.o ?_|apply Rx.on ?_|apply Wp.seq ?_|(apply zd fun K hK=>?_)|apply zh ?_|apply Rx.rt ?_)
     all_goals (refine⟨eI,_,eR,?_⟩;try simp only[zp])
     obtain⟨R7,F7⟩:=R6.setS (zt r0.1 r1.2.state (zt r0.1 r1.1 r2.1 r2.2).2.state (zt r0.1 r1.1 r2.1 r2.2).2).1
     exact⟨rfl,S6,lv6,R7,F1c.trans (F2.trans (F3.trans (F3s.trans (F4.trans (F5.trans (F6.trans F7))))))⟩
    refine zr.mono ?_ main
    intro w H2 h2
    obtain⟨rfl,h3⟩:=id h2
    dsimp only[zA]
    repeat' (first
     | (apply Rx.nl ?_;clear hK K)|apply Rx.o ?_|apply Rx.on ?_|apply Wp.seq ?_|(apply zd fun K hK=>?_)|apply zh ?_|apply Rx.rt ?_)
    all_goals (refine⟨eI,_,eR,?_⟩;try simp only[zp])
    exact h2
   rw[if_neg h5]at h
   simp only[Option.bind_eq_some_iff]at h
   obtain⟨k0,hk0,r0,e0,h⟩:=h
   by_cases hz:x.kids.length=1
   ·rw[if_pos hz,Option.some.injEq]at h
    subst h
    have hF0:Fin r0.2:=hF.le (zV _ _).le
    have hz':((x.kids.length:Nat):Int)=1:=by omega
    refine zj (M:=110) (rs:=[.tmp 4]) (hw.call _) hw.ice hw.froz Try.func61 rfl rfl zgp.2 rfl ?_;dsimp only[zgp,zO,Nat.reduceAdd]
    repeat' (first
     | (apply Rx.nl ?_;clear hK K)|apply Ry.o ?_|(apply Ry.gd (fun hg hgp=>?_) (fun hg hgp=>?_)<;>try (cases hg;done))|(apply Ry.cd (fun hb hbp=>?_) (fun hb hbp=>?_)<;>try (cases hb;done))|apply Wp.seq ?_|(apply zd fun K hK=>?_)|(apply zf 5 [(3,14),(7,14),(9,14),(10,14),(12,14)] fun K hK=>?_)|(apply zf 7 [(2,5),(4,5),(9,5),(9,15),(11,5),(11,15),(12,5),(12,15)] fun K hK=>?_)|(apply zw ?_;try intro _)|(apply zx ?_ ?_<;>clear hK K)|apply WpT.step ?_|apply Wp.block ?_|apply zh ?_|apply Rx.rt ?_)
    refine WpL.call rfl eVk eAk ?_;simp only[List.cons_append,List.nil_append,List.append_nil]
    refine zr.mono ?_ (IH k0 s r0 e0 hF0 R1 (FrL.refl _ _ _ _))
    rintro v H2 ⟨rfl,S2,lv2,R2,F2⟩
    have g2:=FrL.box hR F2
    have nw2:=R2.new (Nat.le_refl _)
    dsimp only[zA]
    repeat' (first
     | (apply Rx.nl ?_;clear hK K)|apply Ry.o ?_|(apply Ry.gd (fun hg hgp=>?_) (fun hg hgp=>?_)<;>try (cases hg;done))|(apply Ry.cd (fun hb hbp=>?_) (fun hb hbp=>?_)<;>try (cases hb;done))|apply Wp.seq ?_|(apply zd fun K hK=>?_)|(apply zf 5 [(3,14),(7,14),(9,14),(10,14),(12,14)] fun K hK=>?_)|(apply zf 7 [(2,5),(4,5),(9,5),(9,15),(11,5),(11,15),(12,5),(12,15)] fun K hK=>?_)|(apply zw ?_;try intro _)|(apply zx ?_ ?_<;>clear hK K)|apply WpT.step ?_|apply Wp.block ?_|apply zh ?_|apply Rx.rt ?_)
    refine WpL.call rfl eVk eAk ?_;simp only[List.cons_append,List.nil_append,List.append_nil]
    refine zr.mono ?_ (zaT hG (R2.alloc _) ((FrL.refl _ _ _ _).alloc _) ⟨x.op,0,[r0.1]⟩ rfl (by rw[za,if_pos rfl];rfl) (Nat.le_refl _) (Nat.lt_succ_self _) nw2.2.2 nw2.1 nw2.2.1 hF rfl rfl)
    intro w H4 h4
    have h5:=h4.pre (F1.trans F2)
    obtain⟨rfl,h6⟩:=h4
    dsimp only[zA]
    repeat' (first
     | (apply Rx.nl ?_;clear hK K)|apply Rx.o ?_|apply Wp.seq ?_|(apply zd fun K hK=>?_)|(apply zf 5 [(3,14),(7,14),(9,14),(10,14),(12,14)] fun K hK=>?_)|(apply zf 7 [(2,5),(4,5),(9,5),(9,15),(11,5),(11,15),(12,5),(12,15)] fun K hK=>?_)|(apply zw ?_;try intro _)|(apply zx ?_ ?_<;>clear hK K)|apply WpT.step ?_|apply Wp.block ?_|apply zh ?_|apply Rx.rt ?_)
    all_goals (refine⟨eI,_,eR,?_⟩;try simp only[zp])
    exact h5
   rw[if_neg hz]at h
   simp only[Option.bind_eq_some_iff,Option.some.injEq]at h
   obtain⟨k1,hk1,r1,e1,rfl⟩:=h
   have hz':¬ ((x.kids.length:Nat):Int)=1:=by omega
   have hFd:Fin (if x.op=7∨x.op=8 then zfb r1.1 r1.2 else r1.2):=hF.le (zV _ _).le
   have hF1:Fin r1.2:=by
    split at hFd
    ·exact hFd.le (zkc _ _).le
    ·exact hFd
   have hF0:Fin r0.2:=hF1.le (yg c n _ _ _ e1).le
   generalize hq:(if x.op=7∨x.op=8 then zfb r1.1 r1.2 else r1.2)=q at *
   refine zj (M:=110) (rs:=[.tmp 4]) (hw.call _) hw.ice hw.froz Try.func61 rfl rfl zgp.2 rfl ?_;dsimp only[zgp,zO,Nat.reduceAdd]
   repeat' (first
    | (apply Rx.nl ?_;clear hK K)|apply Ry.o ?_|(apply Ry.gd (fun hg hgp=>?_) (fun hg hgp=>?_)<;>try (cases hg;done))|(apply Ry.cd (fun hb hbp=>?_) (fun hb hbp=>?_)<;>try (cases hb;done))|apply Wp.seq ?_|(apply zd fun K hK=>?_)|(apply zf 5 [(3,14),(7,14),(9,14),(10,14),(12,14)] fun K hK=>?_)|(apply zf 7 [(2,5),(4,5),(9,5),(9,15),(11,5),(11,15),(12,5),(12,15)] fun K hK=>?_)|(apply zw ?_;try intro _)|(apply zx ?_ ?_<;>clear hK K)|apply WpT.step ?_|apply Wp.block ?_|apply zh ?_|apply Rx.rt ?_)
   refine WpL.call rfl eVk eAk ?_;simp only[List.cons_append,List.nil_append,List.append_nil]
   refine zr.mono ?_ (IH k0 s r0 e0 hF0 R1 (FrL.refl _ _ _ _))
   rintro v H2 ⟨rfl,S2,lv2,R2,F2⟩
   have g2:=FrL.box hR F2
   dsimp only[zA]
   repeat' (first
    | (apply Rx.nl ?_;clear hK K)|apply Ry.o ?_|(apply Ry.gd (fun hg hgp=>?_) (fun hg hgp=>?_)<;>try (cases hg;done))|(apply Ry.cd (fun hb hbp=>?_) (fun hb hbp=>?_)<;>try (cases hb;done))|apply Wp.seq ?_|(apply zd fun K hK=>?_)|(apply zf 5 [(3,14),(7,14),(9,14),(10,14),(12,14)] fun K hK=>?_)|(apply zf 7 [(2,5),(4,5),(9,5),(9,15),(11,5),(11,15),(12,5),(12,15)] fun K hK=>?_)|(apply zw ?_;try intro _)|(apply zx ?_ ?_<;>clear hK K)|apply WpT.step ?_|apply Wp.block ?_|apply zh ?_|apply Rx.rt ?_)
   refine WpL.call rfl eVk eAk ?_;simp only[List.cons_append,List.nil_append,List.append_nil]
   refine zr.mono ?_ (IH k1 _ r1 e1 hF1 R2 (FrL.refl _ _ _ _))
   rintro v H3 ⟨rfl,S3,lv3,R3,F3⟩
   have g3:=FrL.box hR (F2.trans F3)
   have F123:=F1.trans (F2.trans F3)
   dsimp only[zA]
   by_cases hd:x.op=7∨x.op=8
   ·rw[if_pos hd]at hq
    subst hq
    have hFq:Fin (zm ⟨16,0,[r1.1,(zm ⟨1,0,[]⟩ r1.2).1]⟩ (zm ⟨1,0,[]⟩ r1.2).2).2:=hFd.le (za7 _ _ _).le
    have hFz:Fin (zm ⟨1,0,[]⟩ r1.2).2:=hFq.le (zV _ _).le
    rcases hd with h7|h8
    ·repeat' (first
      | (apply Rx.nl ?_;clear hK K)|apply Ry.o ?_|(apply Ry.gd (fun hg hgp=>?_) (fun hg hgp=>?_)<;>try (cases hg;done))|(apply Ry.cd (fun hb hbp=>?_) (fun hb hbp=>?_)<;>try (cases hb;done))|apply Wp.seq ?_|(apply zd fun K hK=>?_)|(apply zf 5 [(3,14),(7,14),(9,14),(10,14),(12,14)] fun K hK=>?_)|(apply zf 7 [(2,5),(4,5),(9,5),(9,15),(11,5),(11,15),(12,5),(12,15)] fun K hK=>?_)|(apply zw ?_;try intro _)|(apply zx ?_ ?_<;>clear hK K)|apply WpT.step ?_|apply Wp.block ?_|apply zh ?_|apply Rx.rt ?_)
     refine WpL.call rfl eVk eAk ?_;simp only[List.cons_append,List.nil_append,List.append_nil]
     refine zr.mono ?_ (zc1 hG R3 (FrL.refl _ _ _ _) 0 hFz)
     rintro v H4 ⟨rfl,S4,lv4,R4,F4⟩
     have nw4:=R4.new (Nat.le_refl _)
     dsimp only[zA]
     repeat' (first
      | (apply Rx.nl ?_;clear hK K)|apply Rx.o ?_|apply Wp.seq ?_|(apply zd fun K hK=>?_)|(apply zf 5 [(3,14),(7,14),(9,14),(10,14),(12,14)] fun K hK=>?_)|(apply zf 7 [(2,5),(4,5),(9,5),(9,15),(11,5),(11,15),(12,5),(12,15)] fun K hK=>?_)|(apply zw ?_;try intro _)|(apply zx ?_ ?_<;>clear hK K)|apply WpT.step ?_|apply Wp.block ?_|apply zh ?_|apply Rx.rt ?_)
     refine WpL.call rfl eVk eAk ?_;simp only[List.cons_append,List.nil_append,List.append_nil]
     refine zr.mono ?_ (zaT hG (R4.alloc _) ((FrL.refl _ _ _ _).alloc _) ⟨16,0,[r1.1,(zm ⟨1,0,[]⟩ r1.2).1]⟩ rfl (by rw[za,if_pos rfl];rfl) (Nat.le_refl _) (Nat.lt_succ_self _) nw4.2.2 nw4.1 nw4.2.1 hFq rfl rfl)
     rintro v H5 ⟨rfl,S5,lv5,R5,F5⟩
     dsimp only[zA]
     repeat' (first
      | (apply Rx.nl ?_;clear hK K)|apply Rx.o ?_|apply Wp.seq ?_|(apply zd fun K hK=>?_)|(apply zf 5 [(3,14),(7,14),(9,14),(10,14),(12,14)] fun K hK=>?_)|(apply zf 7 [(2,5),(4,5),(9,5),(9,15),(11,5),(11,15),(12,5),(12,15)] fun K hK=>?_)|(apply zw ?_;try intro _)|(apply zx ?_ ?_<;>clear hK K)|apply WpT.step ?_|apply Wp.block ?_|apply zh ?_|apply Rx.rt ?_)
     refine WpL.call rfl eVk eAk ?_;simp only[List.cons_append,List.nil_append,List.append_nil]
     refine zr.mono ?_ (zfS hG R5 (FrL.refl _ _ _ _) 1 _ hFd)
     rintro v H6 ⟨S6,lv6,R6,F6⟩
     have F36:=F4.trans (F5.trans F6)
     have g6:=FrL.box hR (F2.trans (F3.trans F36))
     have nw6:=R6.new (Nat.le_refl _)
     have R6':RepL X H6 S6 (zfb r1.1 r1.2) lv6 vv:=R6
     dsimp only[zA]
     repeat' (first
      | (apply Rx.nl ?_;clear hK K)|apply Rx.o ?_|apply Wp.seq ?_|(apply zd fun K hK=>?_)|(apply zf 5 [(3,14),(7,14),(9,14),(10,14),(12,14)] fun K hK=>?_)|(apply zf 7 [(2,5),(4,5),(9,5),(9,15),(11,5),(11,15),(12,5),(12,15)] fun K hK=>?_)|(apply zw ?_;try intro _)|(apply zx ?_ ?_<;>clear hK K)|apply WpT.step ?_|apply Wp.block ?_|apply zh ?_|apply Rx.rt ?_)
     refine WpL.call rfl eVk eAk ?_;simp only[List.cons_append,List.nil_append,List.append_nil]
     refine zr.mono ?_ (zaT hG (R6'.alloc _) ((FrL.refl _ _ _ _).alloc _) ⟨x.op,0,[r0.1,r1.1]⟩ rfl (by rw[za,if_pos rfl];rfl) (Nat.le_refl _) (Nat.lt_succ_self _) nw6.2.2 nw6.1 nw6.2.1 hF h7 rfl)
     intro w H7 h7q
     have h5q:=h7q.pre (F123.trans F36)
     obtain⟨rfl,h6q⟩:=h7q
     dsimp only[zA]
     repeat' (first
      | (apply Rx.nl ?_;clear hK K)|apply Rx.o ?_|apply Wp.seq ?_|(apply zd fun K hK=>?_)|(apply zf 5 [(3,14),(7,14),(9,14),(10,14),(12,14)] fun K hK=>?_)|(apply zf 7 [(2,5),(4,5),(9,5),(9,15),(11,5),(11,15),(12,5),(12,15)] fun K hK=>?_)|(apply zw ?_;try intro _)|(apply zx ?_ ?_<;>clear hK K)|apply WpT.step ?_|apply Wp.block ?_|apply zh ?_|apply Rx.rt ?_)
     all_goals (refine⟨eI,_,eR,?_⟩;try simp only[zp])
     rw[h7]at h5q ⊢;exact h5q
    ·have h7:¬ x.op=7:=by omega
     repeat' (first
      | (apply Rx.nl ?_;clear hK K)|apply Ry.o ?_|(apply Ry.gd (fun hg hgp=>?_) (fun hg hgp=>?_)<;>try (cases hg;done))|(apply Ry.cd (fun hb hbp=>?_) (fun hb hbp=>?_)<;>try (cases hb;done))|apply Wp.seq ?_|(apply zd fun K hK=>?_)|(apply zf 5 [(3,14),(7,14),(9,14),(10,14),(12,14)] fun K hK=>?_)|(apply zf 7 [(2,5),(4,5),(9,5),(9,15),(11,5),(11,15),(12,5),(12,15)] fun K hK=>?_)|(apply zw ?_;try intro _)|(apply zx ?_ ?_<;>clear hK K)|apply WpT.step ?_|apply Wp.block ?_|apply zh ?_|apply Rx.rt ?_)
     refine WpL.call rfl eVk eAk ?_;simp only[List.cons_append,List.nil_append,List.append_nil]
     refine zr.mono ?_ (zc1 hG R3 (FrL.refl _ _ _ _) 0 hFz)
     rintro v H4 ⟨rfl,S4,lv4,R4,F4⟩
     have nw4:=R4.new (Nat.le_refl _)
     dsimp only[zA]
     repeat' (first
      | (apply Rx.nl ?_;clear hK K)|apply Rx.o ?_|apply Wp.seq ?_|(apply zd fun K hK=>?_)|(apply zf 5 [(3,14),(7,14),(9,14),(10,14),(12,14)] fun K hK=>?_)|(apply zf 7 [(2,5),(4,5),(9,5),(9,15),(11,5),(11,15),(12,5),(12,15)] fun K hK=>?_)|(apply zw ?_;try intro _)|(apply zx ?_ ?_<;>clear hK K)|apply WpT.step ?_|apply Wp.block ?_|apply zh ?_|apply Rx.rt ?_)
     refine WpL.call rfl eVk eAk ?_;simp only[List.cons_append,List.nil_append,List.append_nil]
     refine zr.mono ?_ (zaT hG (R4.alloc _) ((FrL.refl _ _ _ _).alloc _) ⟨16,0,[r1.1,(zm ⟨1,0,[]⟩ r1.2).1]⟩ rfl (by rw[za,if_pos rfl];rfl) (Nat.le_refl _) (Nat.lt_succ_self _) nw4.2.2 nw4.1 nw4.2.1 hFq rfl rfl)
     rintro v H5 ⟨rfl,S5,lv5,R5,F5⟩
     dsimp only[zA]
     repeat' (first
      | (apply Rx.nl ?_;clear hK K)|apply Rx.o ?_|apply Wp.seq ?_|(apply zd fun K hK=>?_)|(apply zf 5 [(3,14),(7,14),(9,14),(10,14),(12,14)] fun K hK=>?_)|(apply zf 7 [(2,5),(4,5),(9,5),(9,15),(11,5),(11,15),(12,5),(12,15)] fun K hK=>?_)|(apply zw ?_;try intro _)|(apply zx ?_ ?_<;>clear hK K)|apply WpT.step ?_|apply Wp.block ?_|apply zh ?_|apply Rx.rt ?_)
     refine WpL.call rfl eVk eAk ?_;simp only[List.cons_append,List.nil_append,List.append_nil]
     refine zr.mono ?_ (zfS hG R5 (FrL.refl _ _ _ _) 1 _ hFd)
     rintro v H6 ⟨S6,lv6,R6,F6⟩
     have F36:=F4.trans (F5.trans F6)
     have g6:=FrL.box hR (F2.trans (F3.trans F36))
     have nw6:=R6.new (Nat.le_refl _)
     have R6':RepL X H6 S6 (zfb r1.1 r1.2) lv6 vv:=R6
     dsimp only[zA]
     repeat' (first
      | (apply Rx.nl ?_;clear hK K)|apply Rx.o ?_|apply Wp.seq ?_|(apply zd fun K hK=>?_)|(apply zf 5 [(3,14),(7,14),(9,14),(10,14),(12,14)] fun K hK=>?_)|(apply zf 7 [(2,5),(4,5),(9,5),(9,15),(11,5),(11,15),(12,5),(12,15)] fun K hK=>?_)|(apply zw ?_;try intro _)|(apply zx ?_ ?_<;>clear hK K)|apply WpT.step ?_|apply Wp.block ?_|apply zh ?_|apply Rx.rt ?_)
     refine WpL.call rfl eVk eAk ?_;simp only[List.cons_append,List.nil_append,List.append_nil]
     refine zr.mono ?_ (zaT hG (R6'.alloc _) ((FrL.refl _ _ _ _).alloc _) ⟨x.op,0,[r0.1,r1.1]⟩ rfl (by rw[za,if_pos rfl];rfl) (Nat.le_refl _) (Nat.lt_succ_self _) nw6.2.2 nw6.1 nw6.2.1 hF h8 rfl)
     intro w H7 h7q
     have h5q:=h7q.pre (F123.trans F36)
     obtain⟨rfl,h6q⟩:=h7q
     dsimp only[zA]
     repeat' (first
      | (apply Rx.nl ?_;clear hK K)|apply Rx.o ?_|apply Wp.seq ?_|(apply zd fun K hK=>?_)|(apply zf 5 [(3,14),(7,14),(9,14),(10,14),(12,14)] fun K hK=>?_)|(apply zf 7 [(2,5),(4,5),(9,5),(9,15),(11,5),(11,15),(12,5),(12,15)] fun K hK=>?_)|(apply zw ?_;try intro _)|(apply zx ?_ ?_<;>clear hK K)|apply WpT.step ?_|apply Wp.block ?_|apply zh ?_|apply Rx.rt ?_)
     all_goals (refine⟨eI,_,eR,?_⟩;try simp only[zp])
     rw[h8]at h5q ⊢;exact h5q
   ·rw[if_neg hd]at hq
    subst hq
    have h7:¬ x.op=7:=fun e=>hd (.inl e)
    have h8:¬ x.op=8:=fun e=>hd (.inr e)
    have nw3:=R3.new (Nat.le_refl _)
    repeat' (first
     | (apply Rx.nl ?_;clear hK K)|apply Ry.o ?_|(apply Ry.gd (fun hg hgp=>?_) (fun hg hgp=>?_)<;>try (cases hg;done))|(apply Ry.cd (fun hb hbp=>?_) (fun hb hbp=>?_)<;>try (cases hb;done))|apply Wp.seq ?_|(apply zd fun K hK=>?_)|(apply zf 5 [(3,14),(7,14),(9,14),(10,14),(12,14)] fun K hK=>?_)|(apply zf 7 [(2,5),(4,5),(9,5),(9,15),(11,5),(11,15),(12,5),(12,15)] fun K hK=>?_)|(apply zw ?_;try intro _)|(apply zx ?_ ?_<;>clear hK K)|apply WpT.step ?_|apply Wp.block ?_|apply zh ?_|apply Rx.rt ?_)
    refine WpL.call rfl eVk eAk ?_;simp only[List.cons_append,List.nil_append,List.append_nil]
    refine zr.mono ?_ (zaT hG (R3.alloc _) ((FrL.refl _ _ _ _).alloc _) ⟨x.op,0,[r0.1,r1.1]⟩ rfl (by rw[za,if_pos rfl];rfl) (Nat.le_refl _) (Nat.lt_succ_self _) nw3.2.2 nw3.1 nw3.2.1 hF rfl rfl)
    intro w H4 h4
    have h5:=h4.pre F123
    obtain⟨rfl,h6⟩:=h4
    dsimp only[zA]
    repeat' (first
     | (apply Rx.nl ?_;clear hK K)|apply Rx.o ?_|apply Wp.seq ?_|(apply zd fun K hK=>?_)|(apply zf 5 [(3,14),(7,14),(9,14),(10,14),(12,14)] fun K hK=>?_)|(apply zf 7 [(2,5),(4,5),(9,5),(9,15),(11,5),(11,15),(12,5),(12,15)] fun K hK=>?_)|(apply zw ?_;try intro _)|(apply zx ?_ ?_<;>clear hK K)|apply WpT.step ?_|apply Wp.block ?_|apply zh ?_|apply Rx.rt ?_)
    all_goals (refine⟨eI,_,eR,?_⟩;try simp only[zp])
    exact h5
end Go.Proofs.Ytpbcimfiofmoeaa
namespace Go.Proofs.Ytpbcimfiofmoeaa
set_option maxRecDepth 20000
set_option maxRecDepth 20000
open Go Go.Ab
namespace tyLoE
def tyF:=And.intro @tq3 (And.intro @tq4 (And.intro @tq9 (And.intro @zcV (And.intro @zg4 (And.intro @zcj (And.intro @za9 (And.intro @zba (And.intro @zau (And.intro @zbw (And.intro @zgd (And.intro @zh7 (@tq107))))))))))))
end tyLoE
open tyLoE
noncomputable def zuP:{ c:SC // slim 42 (Try.f140.body.getD .skip)=c }:=by
 refine⟨?_,?_⟩
 rotate_left
 ·simp only[Try.f140,Option.getD_some,slim,zZ,zS,z6,z7,Nat.blt,Nat.ble]
  rfl
def zuQ (q:Nat) (H:Hp) (b:List Bool) (v:AV) (H':Hp):Prop:=H'.get q=some (.cells (b.map .bool) 0 true)∧H.next≤H'.next∧∀ k,k < H.next→k≠q→H'.get k=H.get k
structure Smq (n q:Nat) (H H':Hp):Prop where
 get:∀ k,k < n→k≠q→H'.get k=H.get k
theorem zch (names:List Nm):∀ (n:Nat) (l:List St) (b b':List Bool),zbh names n l b=some b'→b'.length=b.length
 | 0,_,_,_,h=>by simp[zbh]at h
 | n+1,[],b,b',h=>by cases h;rfl
 | n+1,x::l,b,b',h=>by
   unfold zbh at h
   simp only[]at h
   split at h
   ·cases h
   ·simp only[Option.bind_eq_some_iff]at h
    obtain⟨b2,h2,b3,h3,h4⟩:=h
    rw[zch names n _ _ _ h4,zch names n _ _ _ h3,zch names n _ _ _ h2]
    split<;>simp
theorem ixBo {q n m:Nat} (hm:m < n):zq Try.prog 107 (.sl q 0 n 1) (.int .i64 (m:Int))=some (.ptr q m):=by rw[zdU Try.underlying107 sz4 hm];simp
theorem setBo {H:Hp}{r m:Nat}{b:List Bool} (hg:H.get r=some (.cells (b.map .bool) 0 true)) (hm:m < b.length) (x:Bool):zbr Try.prog H 4 (.ptr r m) (.bool x)=some (H.set r (.cells ((b.set m x).map .bool) 0 true)):=by
 rw[zqz hg (by rw[List.length_map];exact hm),List.map_set]
set_option maxRecDepth 100000 in
theorem zkg {tb:List En} (hG:LowT tb) {X:Lx}{c:Cx} (hX:CxOk X c):∀ (N n:Nat),n < N→∀ (l:List St) (b b':List Bool),zbh c.names n l b=some b'→zu l < 2 ^ 40→∀ {H:Hp}{S:Nat→Prop}{s:Bd}{lv vv:AV}{q:Nat},RepL X H S s lv vv→H.get q=some (.cells (b.map .bool) 0 true)→X.b < q→q < H.next→¬ S q→¬ yq vv q →
 zr Try.prog (zK pls tb) 140 [.ptr X.b 0,.lst (l.map St.cells),.sl q 0 b.length 1] H (zuQ q H b')
 | 0,n,hn,_,_,_,_,_,_,_,_,_,_,_,_,_,_,_,_,_=>by omega
 | N+1,n,hn,l,b,b',h,hz,H,S,s,lv,vv,q,hR,hg,hq1,hq2,hq3,hq4=>by
   have hw:Plain (zK pls tb) 140:=hG.plain (by rfl)
   have hll:=j8 l
   have o3:=hR.o3
   have o4:=hR.o4
   refine zj (M:=42) (rs:=[]) (hw.call _) hw.ice hw.froz Try.func140 rfl rfl zuP.2 rfl ?_;dsimp only[zuP,zO,Nat.reduceAdd]
   repeat' (first
    | (apply Rx.nl ?_;clear hK K)|apply Rx.o ?_|(apply Rx.cd (fun hb hbp=>?_) (fun hb hbp=>?_)<;>try (cases hb;done))|apply Wp.seq ?_|(apply zd fun K hK=>?_)|(apply yo 4 fun K hK=>?_)|apply Wp.block ?_|apply zh ?_|apply zk ?_)
   refine yd [0,2,8,9] [] 10 l.length (fun i E H2=>∃ m bi,m≤n∧bi.length=b.length∧zbh c.names m (l.drop i) bi=some b'∧H2.get q=some (.cells (bi.map .bool) 0 true)∧Smq H.next q H H2) eE ⟨n,b,Nat.le_refl _,rfl,h,hg,⟨fun _ _ _=>rfl⟩⟩ ?_
   rintro i E H2 hi hcE hrH hnH hsI ⟨m,bi,hm,hbl,hJ,hg2,hsm⟩
   (try simp only[zi,zl,and_true,sB,sO,Nat.reduceBEq,Nat.reduceAdd,Nat.reduceLeDiff,tyF, *]at hcE)
   (try simp only[zi,zl,and_true,sB,sO,Nat.reduceBEq,Nat.reduceAdd,Nat.reduceLeDiff,tyF, *]at hrH)
   (try simp only[zb,ze,zH,Nat.zero_add,Nat.reduceAdd]at hnH)
   have R2:RepL X H2 S s lv vv:=hR.keep hnH fun k h1 h2=>hsm.get k h1 fun e=>by
    subst e
    rcases h2 with h2|h2|h2
    ·omega
    ·exact hq3 h2
    ·exact hq4 h2
   by_cases hlt:i < l.length
   ·have hlt':(i:Int) < l.length:=by omega
    have hgx:l[i]?=some l[i]:=List.getElem?_eq_getElem hlt
    have hmem:=jv (List.getElem_mem hlt)
    have hsz:=(l[i]).sz_eq
    cases m with
    | zero=>simp[zbh]at hJ
    | succ m=>
    rw[List.drop_eq_getElem_cons hlt]at hJ
    unfold zbh at hJ
    simp only[]at hJ
    generalize l[i]=x at *
    split at hJ
    ·cases hJ
    rename_i hno
    simp only[Option.bind_eq_some_iff]at hJ
    obtain⟨b2,j2,b3,j3,j4⟩:=hJ
    have R3:=R2.alloc2 (.cells (List.replicate 17 (.int .i64 0)) 0 true) (.cells x.cells 0 true)
    repeat' (first
     | (apply Rx.nl ?_;clear hK K)|apply Ry.o ?_|apply Ry.on ?_|(apply Ry.gd (fun hg hgp=>?_) (fun hg hgp=>?_)<;>try (cases hg;done))|apply Wp.seq ?_|(apply zd fun K hK=>?_)|(apply yo 4 fun K hK=>?_)|apply Wp.block ?_|apply zh ?_|apply zk ?_)
    (apply Rx.cd (fun hb hbp=>?_) (fun hb hbp=>?_)<;>try (cases hb;done))
    apply zh ?_
    apply Wp.seq ?_
    apply Wp.block ?_
    apply Wp.seq ?_
    (apply zd fun K hK=>?_)
    repeat' (first
     | (apply Rx.nl ?_;clear hK K)|apply Ry.o ?_|apply Ry.on ?_)
    apply Wp.seq ?_
    generalize hHb:Hp.set (H2.alloc _) _ _=Hb
    have Rb:RepL X Hb S s lv vv:=by rw[← hHb];exact R2.alloc2 _ _
    have nb:Hb.next=H2.next+1:=by rw[← hHb];rfl
    have gb:Hb.get q=some (.cells (bi.map .bool) 0 true):=by rw[← hHb,Hp.get_set,if_neg (by omega),za,if_neg (by omega)];exact hg2
    have gx:Hb.get H2.next=some (.cells x.cells 0 true):=by rw[← hHb,Hp.get_set,if_pos rfl]
    have sb:Smq H.next q H Hb:=⟨fun k h1 h2=>by rw[← hHb,Hp.get_set,if_neg (by omega),za,if_neg (by omega)];exact hsm.get k h1 h2⟩
    clear hHb R3
    have mb:=Rb.m
    unfold lc at mb
    have hlk:=Rb.lkN hX x.name
    have hbl1:(if x.kind=1∨x.kind=6 then bi.set (ixS c.names x.name) true else bi).length=b.length:=by split<;>simp[hbl]
    refine zqJ (fun E' H'=>E'.at 0=.ptr X.b 0∧E'.at 2=.sl q 0 b.length 1∧E'.at 7=.ptr H2.next 0∧E'.at 8=.lst (l.map St.cells)∧E'.at 9=.int .i64 l.length∧E'.at 10=.int .i64 i∧H'.get q=some (.cells ((if x.kind=1∨x.kind=6 then bi.set (ixS c.names x.name) true else bi).map .bool) 0 true)∧H'.get H2.next=some (.cells x.cells 0 true)∧H'.next=H2.next+1∧Smq H.next q H H') ?_ ?_
    ·by_cases hk:x.kind=1∨x.kind=6
     ·have hixl:ixS c.names x.name < bi.length:=by
       by_cases c2:ixS c.names x.name < bi.length
       ·exact c2
       ·exact absurd ⟨hk,by omega⟩ hno
      have hix:=ixBo (q:=q) (n:=b.length) (m:=ixS c.names x.name) (by omega)
      have hst:=setBo gb hixl true
      rcases hk with h1|h6
      ·repeat' (first
        | (apply Rx.nl ?_;clear hK K)|apply Ry.o ?_|apply Ry.on ?_|(apply Ry.gd (fun hg hgp=>?_) (fun hg hgp=>?_)<;>try (cases hg;done))|(apply Ry.cd (fun hb hbp=>?_) (fun hb hbp=>?_)<;>try (cases hb;done))|apply Wp.seq ?_|(apply zd fun K hK=>?_)|(apply yo 4 fun K hK=>?_)|apply Wp.block ?_|apply zh ?_|apply zk ?_)
       all_goals first
        | exact eK
        | skip
       exact⟨rfl,eE,eE,eE,eE,eE,eE,by rw[Hp.get_set,if_pos rfl,if_pos (.inl h1)],by rw[Hp.get_set,if_neg (by omega)];exact gx,nb,⟨fun k h1 h2=>by rw[Hp.get_set,if_neg h2];exact sb.get k h1 h2⟩⟩
      ·have h1:¬ x.kind=1:=by omega
       repeat' (first
        | (apply Rx.nl ?_;clear hK K)|apply Ry.o ?_|apply Ry.on ?_|(apply Ry.gd (fun hg hgp=>?_) (fun hg hgp=>?_)<;>try (cases hg;done))|(apply Ry.cd (fun hb hbp=>?_) (fun hb hbp=>?_)<;>try (cases hb;done))|apply Wp.seq ?_|(apply zd fun K hK=>?_)|(apply yo 4 fun K hK=>?_)|apply Wp.block ?_|apply zh ?_|apply zk ?_)
       all_goals first
        | exact eK
        | skip
       exact⟨rfl,eE,eE,eE,eE,eE,eE,by rw[Hp.get_set,if_pos rfl,if_pos (.inr h6)],by rw[Hp.get_set,if_neg (by omega)];exact gx,nb,⟨fun k h1 h2=>by rw[Hp.get_set,if_neg h2];exact sb.get k h1 h2⟩⟩
     ·have h1:¬ x.kind=1:=fun e=>hk (.inl e)
      have h6:¬ x.kind=6:=fun e=>hk (.inr e)
      rw[if_neg hk]
      repeat' (first
       | (apply Rx.nl ?_;clear hK K)|apply Ry.o ?_|apply Ry.on ?_|(apply Ry.gd (fun hg hgp=>?_) (fun hg hgp=>?_)<;>try (cases hg;done))|(apply Ry.cd (fun hb hbp=>?_) (fun hb hbp=>?_)<;>try (cases hb;done))|apply Wp.seq ?_|(apply zd fun K hK=>?_)|(apply yo 4 fun K hK=>?_)|apply Wp.block ?_|apply zh ?_|apply zk ?_)
      exact⟨rfl,eE,eE,eE,eE,eE,eE,gb,gx,nb,sb⟩
    generalize (if x.kind=1∨x.kind=6 then bi.set (ixS c.names x.name) true else bi)=b1 at *
    clear gb gx nb sb mb hlk
    rintro E3 H3 ⟨k0,k2,k7,k8,k9,k10,g3,gx3,n3,s3⟩
    dsimp only[zb9]
    have R3:RepL X H3 S s lv vv:=hR.keep (by omega) fun k h1 h2=>s3.get k h1 fun e=>by
     subst e
     rcases h2 with h2|h2|h2
     ·omega
     ·exact hq3 h2
     ·exact hq4 h2
    repeat' (first
     | (apply Rx.nl ?_;clear hK K)|apply Rx.o ?_|(apply Rx.cd (fun hb hbp=>?_) (fun hb hbp=>?_)<;>try (cases hb;done))|apply Wp.seq ?_|(apply zd fun K hK=>?_)|(apply yo 4 fun K hK=>?_)|apply Wp.block ?_|apply zh ?_|apply zk ?_)
    refine WpL.call rfl eVk eAk ?_;simp only[List.cons_append,List.nil_append,List.append_nil]
    refine zr.mono ?_ (by rw[← hbl1];exact zkg hG hX N m (by omega) x.thn b1 b2 j2 (by omega) R3 g3 hq1 (by omega) hq3 hq4)
    rintro v H4 ⟨g4,n4,s4⟩
    have hbl2:=zch _ _ _ _ _ j2
    have gx4:H4.get H2.next=some (.cells x.cells 0 true):=by rw[s4 _ (by omega) (by omega)];exact gx3
    have R4:RepL X H4 S s lv vv:=R3.keep n4 fun k h1 h2=>s4 k h1 fun e=>by
     subst e
     rcases h2 with h2|h2|h2
     ·omega
     ·exact hq3 h2
     ·exact hq4 h2
    have s4':Smq H.next q H H4:=⟨fun k h1 h2=>by rw[s4 k (by omega) h2];exact s3.get k h1 h2⟩
    clear s4
    dsimp only[zA]
    repeat' (first
     | (apply Rx.nl ?_;clear hK K)|apply Rx.o ?_|(apply Rx.cd (fun hb hbp=>?_) (fun hb hbp=>?_)<;>try (cases hb;done))|apply Wp.seq ?_|(apply zd fun K hK=>?_)|(apply yo 4 fun K hK=>?_)|apply Wp.block ?_|apply zh ?_|apply zk ?_)
    refine WpL.call rfl eVk eAk ?_;simp only[List.cons_append,List.nil_append,List.append_nil]
    refine zr.mono ?_ (by rw[← hbl1,← hbl2];exact zkg hG hX N m (by omega) x.els b2 b3 j3 (by omega) R4 g4 hq1 (by omega) hq3 hq4)
    rintro v H5 ⟨g5,n5,s5⟩
    have hbl3:=zch _ _ _ _ _ j3
    have s5':Smq H.next q H H5:=⟨fun k h1 h2=>by rw[s5 k (by omega) h2];exact s4'.get k h1 h2⟩
    clear s5
    dsimp only[zA]
    repeat' (first
     | (apply Rx.nl ?_;clear hK K)|apply Rx.o ?_|(apply Rx.cd (fun hb hbp=>?_) (fun hb hbp=>?_)<;>try (cases hb;done))|apply Wp.seq ?_|(apply zd fun K hK=>?_)|(apply yo 4 fun K hK=>?_)|apply Wp.block ?_|apply zh ?_|apply zk ?_)
    refine⟨by omega,eL,eL,eN,(by simp only[sB,Nat.reduceBEq, *];exact zT (n:=l.length) (by omega) (by omega)),?_⟩
    exact⟨m,b3,by omega,by omega,j4,g5,s5'⟩
   ·have hlt':¬ (i:Int) < l.length:=by omega
    repeat' (first
     | (apply Rx.nl ?_;clear hK K)|apply Ry.o ?_|apply Ry.on ?_|(apply Ry.gd (fun hg hgp=>?_) (fun hg hgp=>?_)<;>try (cases hg;done))|(apply Ry.cd (fun hb hbp=>?_) (fun hb hbp=>?_)<;>try (cases hb;done))|apply Wp.seq ?_|(apply zd fun K hK=>?_)|(apply yo 4 fun K hK=>?_)|apply Wp.block ?_|apply zh ?_|apply zk ?_)
    all_goals (refine⟨eI,_,eR,?_⟩;try simp only[zp])
    have hd:l.drop i=[]:=List.drop_eq_nil_of_le (by omega)
    rw[hd]at hJ
    cases m with
    | zero=>simp[zbh]at hJ
    | succ m=>
      cases hJ
      exact⟨hg2,hnH,hsm.get⟩
end Go.Proofs.Ytpbcimfiofmoeaa
