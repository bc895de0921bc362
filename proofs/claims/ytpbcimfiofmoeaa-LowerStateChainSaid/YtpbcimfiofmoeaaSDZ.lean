/-
  The Go function fullinglaw8.LowerStateChain returns true whatever its argument is, and leaves all memory that was there as it was. Conditions: none.
-/
import Derived.OpenShut
import Derived.ProofKit
import Derived.Test.YtpbcimfiofmoeaaSDS
import Derived.WalkKit
set_option linter.unusedSimpArgs false
set_option linter.unusedVariables false
set_option linter.unusedSectionVars false
set_option linter.defProp false
set_option maxHeartbeats 32000000
namespace Go.Proofs.Ytpbcimfiofmoeaa.lowerStateChain
set_option maxRecDepth 20000
set_option maxRecDepth 20000
open Go Go.Ab
namespace tyLowerStateChain
def tyF:=And.intro @tq2 (And.intro @tq3 (And.intro @tq9 (And.intro @zcV (And.intro @tq25 (And.intro @zg4 (And.intro @tq28 (And.intro @tq31 (And.intro @zgb (And.intro @tq34 (And.intro @zgc (And.intro @zcj (And.intro @zmE (And.intro @zcc (And.intro @za9 (And.intro @zba (And.intro @zau (And.intro @zfA (And.intro @zbw (And.intro @zrH (And.intro @ziL (And.intro @xt0 (@xt1))))))))))))))))))))))
end tyLowerStateChain
open tyLowerStateChain Go.ChangeShapes Go.WideShapes Go.ChangeAt Go.RowKit
theorem own:ownKnob Try.prog.godebug=none:=by kernel_rfl
noncomputable def code8:{ c:SC // slim 147 (Try.f8.body.getD .skip)=c }:=by
 refine⟨?_,?_⟩
 rotate_left
 ·simp only[Try.f8,Option.getD_some,slim,zZ,zS,z6,z7,Nat.blt,Nat.ble]
  rfl
noncomputable def enLEx:En:=⟨17,false,fun args=>zhE knLEx.list 17 args⟩
theorem zr7 (ρ:Nat→Int):zbI Try.prog ρ enLEx:=fun args r hr=>zfv (knLEx.ok ρ) _ args r hr
noncomputable def levC:List En:=[zke,zq4,enNms,enW enLw,enLEx]
theorem levC_ok (ρ:Nat→Int):zdC Try.prog ρ levC:=⟨zjz ρ,zpj ρ,zq5 ρ,enW_ok (zvy ρ),zr7 ρ,trivial⟩
theorem zr8:GenL levC:=⟨fun _=>rfl,fun _=>rfl,fun _=>rfl,fun f hf=>by rcases zlM hf with rfl|rfl|rfl|rfl|rfl<;>exact⟨fun _=>rfl,rfl⟩⟩
theorem kLEx (H:Hp):zr Try.prog (zK pls levC) 17 [] H fun v H'=>v=.bool true∧H'=H:=zge rfl
set_option maxRecDepth 100000 in
theorem law (l:List Int) (hl:l.length < 2 ^ 63) (hL:RgL l):zr Try.prog (zK pls levC) 8 [.lst (l.map fun n=>[AV.int .i64 n])] H0 fun v _=>v=.bool true:=by
 have hw:Plain (zK pls levC) 8:=yJ (fun _=>rfl) rfl
 have hkeep:(zK pls levC).keep 8=false:=rfl
 refine zj (M:=147) (rs:=[.tmp 2]) (hw.call _) hw.ice hw.froz Try.func8 rfl rfl code8.2 rfl ?_;dsimp only[code8,zO,Nat.reduceAdd]
 repeat' (first
  | (apply Rx.nl ?_;clear hK K)|apply Rx.o ?_|apply Rx.on ?_|(apply Rx.gd (fun hg hgp=>?_) (fun hg hgp=>?_)<;>try (cases hg;done))|(apply Rx.cd (fun hb hbp=>?_) (fun hb hbp=>?_)<;>try (cases hb;done))|apply Wp.seq ?_|(apply zd fun K hK=>?_)|apply Wp.block ?_|apply zh ?_|apply Rx.rt ?_|apply zk ?_)
 refine WpL.call rfl eVk eAk ?_;simp only[List.cons_append,List.nil_append,List.append_nil]
 refine zr.mono ?_ (znl zr8 (stAll zr8) l hl H0)
 rintro _ Hq ⟨ra,rf,x,y,cf,cg,rfl,hPM,_,_,_,pt,pf,lf,bf,vf,pg,lg,bg,vg,rfl,rfl,hP,hA,hlab⟩
 obtain⟨v0,v1,v2,v3,v4,rfl⟩:=zcJ hP.F.len
 obtain⟨w0,w1,w2,w3,w4,rfl⟩:=zcJ hP.G.len
 clear hlab hPM
 have gf:=hP.gf
 change Hq.get rf=some (.cells [.str [102],pf,lf,bf,v0,v1,v2,v3,v4,.str [103],pg,lg,bg,w0,w1,w2,w3,w4] 0 true)at gf
 have ga:=hP.ga
 have ltA:=hP.ltA
 have ltF:=hP.ltF
 have hne:ra≠rf:=fun e=>by have h1:=hP.lra;have h2:=hP.lrf;rw[e]at h1;omega
 have i0:∀ r,zq Try.prog 40 (.sl r 0 2 9) (.int .i64 0)=some (.ptr r 0):=fun r=>by kernel_rfl
 have i1:∀ r,zq Try.prog 40 (.sl r 0 2 9) (.int .i64 1)=some (.ptr r 9):=fun r=>by kernel_rfl
 have i1c:∀ r,zq Try.prog 40 (.sl r 0 2 9) (.int .i64 ((1:Nat):Int))=some (.ptr r 9):=i1
 obtain⟨z0,z1,z2,z3,z4⟩:=zi9 hP.F.one
 obtain⟨y0,y1,y2,y3,y4⟩:=zi9 hP.G.one
 dsimp only[zA]
 repeat' (first
  | (apply Rx.nl ?_;clear hK K)|apply Rx.o ?_|apply Rx.on ?_|(apply Rx.gd (fun hg hgp=>?_) (fun hg hgp=>?_)<;>try (cases hg;done))|(apply Rx.cd (fun hb hbp=>?_) (fun hb hbp=>?_)<;>try (cases hb;done))|apply Wp.seq ?_|(apply zd fun K hK=>?_)|apply Wp.block ?_|apply zh ?_|apply Rx.rt ?_|apply zk ?_)
 generalize hH1:Hp.set (Hp.alloc Hq _) Hq.next _=H1
 have n1:H1.next=Hq.next+1:=by rw[← hH1];rfl
 have g1:H1.get Hq.next=some (.cells [.sl ra 0 2 2,.sl rf 0 2 9] 0 true):=by rw[← hH1,Hp.get_set,if_pos rfl]
 have k1:∀ q,q < Hq.next→H1.get q=Hq.get q:=fun q h=>by rw[← hH1,Hp.get_set,if_neg (by omega),zai h]
 clear hH1
 obtain⟨n1a,n1b⟩:H1.next≤Hq.next+1∧Hq.next+1≤H1.next:=by omega
 clear n1
 obtain⟨bF,hbF⟩:∃ b,(yH (l.take 60)).body=b:=⟨_,rfl⟩
 have lF:bF.length < 2 ^ 25∧(ya (l.take 60)).body.length < 2 ^ 25:=by
  have h1:=j8 (yH (l.take 60)).body
  have h1':=j8 (ya (l.take 60)).body
  have h2:=zl5 l
  have h3:(jA l).sz=1+zak (zbk (l.take 60))+za2 [yH (l.take 60),ya (l.take 60)]:=rfl
  simp only[za2,Fu.sz]at h3
  rw[← hbF]
  omega
 obtain⟨bG,hbG⟩:∃ b,(ya (l.take 60)).body=b:=⟨_,rfl⟩
 have rF:yh (fun k=>k≠rf∧k≠Hq.next) 14 H1 17 bf (bF.map St.cells):=by
  rw[← hbF];exact hP.F.bo.keep (fun k h1 h2=>⟨fun e=>by have h3:pt k=3+2:=h2;have h4:=hP.lrf;rw[e]at h3;omega,by omega⟩) (by omega) fun k _ h=>k1 k h
 have rG:yh (fun k=>k≠rf∧k≠Hq.next) 14 H1 17 bg (bG.map St.cells):=by
  rw[← hbG];exact hP.G.bo.keep (fun k h1 h2=>⟨fun e=>by have h3:pt k=7+2:=h2;have h4:=hP.lrf;rw[e]at h3;omega,by omega⟩) (by omega) fun k _ h=>k1 k h
 have gf1:=(k1 rf ltF).trans gf
 refine yd [3,21] [] 22 2 (fun i E H=>∃ B0 B1,H.get rf=some (.cells [.str [102],pf,lf,B0,v0,v1,v2,v3,v4,.str [103],pg,lg,B1,w0,w1,w2,w3,w4] 0 true)∧yh (fun k=>k≠rf∧k≠Hq.next) 14 H 17 B0 ((if i=0 then bF else bF.filter yC).map St.cells)∧yh (fun k=>k≠rf∧k≠Hq.next) 14 H 17 B1 ((if i≤1 then bG else bG.filter yC).map St.cells)∧∀ q,q < H1.next→q≠rf→H.get q=H1.get q) eE ⟨bf,bg,gf1,rF,rG,fun _ _ _=>rfl⟩ ?_
 rintro i E H2 hi hcE hrH hnH hsI ⟨B0,B1,g2,r0,r1,k2⟩
 (try simp only[zi,zl,and_true,sB,sO,Nat.reduceBEq,Nat.reduceAdd,Nat.reduceLeDiff,tyF, *]at hcE)
 (try simp only[zi,zl,and_true,sB,sO,Nat.reduceBEq,Nat.reduceAdd,Nat.reduceLeDiff,tyF, *]at hrH)
 (try simp only[zb,ze,zH,Nat.zero_add,Nat.reduceAdd]at hnH)
 have gp2:=(k2 Hq.next (by omega) (by omega)).trans g1
 have nx2:H1.next≤H2.next:=hnH
 clear rF rG gf1
 by_cases hi2:i < 2
 ·rcases (show i=0∨i=1 by omega)with rfl|rfl
  all_goals
   first
   | (obtain⟨B,eB⟩:∃ B,B=B0:=⟨_,rfl⟩
      obtain⟨bs,ebs⟩:∃ b,bF=b:=⟨_,rfl⟩
      have rB:yh (fun k=>k≠rf∧k≠Hq.next) 14 H2 17 B (bs.map St.cells):=by rw[eB,← ebs];exact r0
      subst eB)
   | (obtain⟨B,eB⟩:∃ B,B=B1:=⟨_,rfl⟩
      obtain⟨bs,ebs⟩:∃ b,bG=b:=⟨_,rfl⟩
      have rB:yh (fun k=>k≠rf∧k≠Hq.next) 14 H2 17 B (bs.map St.cells):=by rw[eB,← ebs];exact r1
      subst eB)
   have hbl:bs.length < 2 ^ 25:=by rw[← ebs];first|exact lF.1|(rw[← hbG];exact lF.2)
   have hlen:∀ H,ye Try.prog H 48 B=some (.int .i64 bs.length):=fun H=>by have:=rB.len (P:=Try.prog) (H':=H) Try.underlying48;rw[List.length_map]at this;exact this
   obtain⟨oB,oB'⟩:=rB.one
   repeat' (first
    | (apply Rx.nl ?_;clear hK K)|apply Rx.o ?_|apply Rx.on ?_|(apply Rx.gd (fun hg hgp=>?_) (fun hg hgp=>?_)<;>try (cases hg;done))|(apply Rx.cd (fun hb hbp=>?_) (fun hb hbp=>?_)<;>try (cases hb;done))|apply Wp.seq ?_|(apply zd fun K hK=>?_)|apply Wp.block ?_|apply zh ?_|apply Rx.rt ?_|apply zk ?_)
   refine yd [3,4,21,22,30,31] [] 32 bs.length (fun j E H=>∃ v,E.at 5=v∧yh (fun k=>k≠rf∧k≠Hq.next) 14 H 17 v (((bs.take j).filter yC).map St.cells)∧(∀ k o m z',v=.sl k o m z'→H2.next≤k)∧∀ q,q < H2.next→H.get q=H2.get q) eE ⟨.nilS,eE,.inl ⟨rfl,by rw[List.take_zero];rfl⟩,fun k o m z' e=>by(cases e),fun _ _=>rfl⟩ ?_
   rintro j E3 H3 hj hcE hrH hnH hsI ⟨u3,k5,r3,l3,k3⟩
   (try simp only[zi,zl,and_true,sB,sO,Nat.reduceBEq,Nat.reduceAdd,Nat.reduceLeDiff,tyF, *]at hcE)
   (try simp only[zi,zl,and_true,sB,sO,Nat.reduceBEq,Nat.reduceAdd,Nat.reduceLeDiff,tyF, *]at hrH)
   (try simp only[zb,ze,zH,Nat.zero_add,Nat.reduceAdd]at hnH)
   have nx3:H2.next≤H3.next:=by assumption
   have gp3:=(k3 Hq.next (by omega)).trans gp2
   have gf3:=(k3 rf (by omega)).trans g2
   obtain⟨o3,o3'⟩:=r3.one
   by_cases hjl:j < bs.length
   ·obtain⟨q,imm,cs,c1,c2,c3,c4,c5,c6,c7,c8,c9,d0,d1,d2,d3,d4,d5,d6,ixj,lq,gq,hag,hone,hcw⟩:=stmtAt rB hjl
    have gq3:=(k3 q lq).trans gq
    have hone':=hone
    simp only[List.all_cons,List.all_nil,Bool.and_true,Bool.and_eq_true]at hone'
    generalize hkd:bs[j].kind=kd at *
    have qe:∀ D (n:Int),jJ Try.prog D .eql 3 (AV.int .i64 kd) (.int .i64 n)=some (.bool (decide (kd=n))):=fun D n=>znC
    generalize AV.int .i64 kd=c0 at *
    have htk:((bs.take (j+1)).filter yC).map St.cells=(((bs.take j).filter yC).map St.cells)++(if yC bs[j]=true then [bs[j].cells]else []):=by
     rw[List.take_add_one,List.getElem?_eq_getElem hjl,Option.toList_some,List.filter_append,List.map_append,List.filter_cons,List.filter_nil]
     split<;>rfl
    have hws:((bs.take j).filter yC).length≤2 ^ 25:=by
     have h1:=List.length_filter_le yC (bs.take j)
     have h2:(bs.take j).length≤j:=by rw[List.length_take];omega
     omega
    repeat' (first
     | (apply Rx.nl ?_;clear hK K)|apply Rx.o ?_|apply Rx.on ?_|(apply Rx.gd (fun hg hgp=>?_) (fun hg hgp=>?_)<;>try (cases hg;done))|(apply Rx.cd (fun hb hbp=>?_) (fun hb hbp=>?_)<;>try (cases hb;done))|apply Wp.seq ?_|(apply zd fun K hK=>?_)|apply Wp.block ?_|apply zh ?_|apply Rx.rt ?_|apply zk ?_)
    rotate_left 1
    ·have hk:yC bs[j]=false:=by
      unfold yC
      rw[hkd]
      simp_all
     have hlt:j < bs.length:=hjl
     rw[if_neg (by rw[hk];decide),List.append_nil]at htk
     refine⟨by omega,eL,eL,eN,(by simp only[sB,Nat.reduceBEq, *];exact zT (n:=2 ^ 25) (by omega) (by omega)),?_⟩
     refine⟨u3,eE,?_,l3,fun q hq=>by rw[Hp.get_set,if_neg (by omega),zai (by omega)];exact k3 q hq⟩
     rw[htk]
     exact r3.keep (fun _ _ h=>h) (Nat.le_succ _) fun k _ h=>by rw[Hp.get_set,if_neg (by omega),zai h]
    all_goals (try (exact absurd hjl (by omega)))
    all_goals
     have hk:yC bs[j]=true:=by
      unfold yC
      rw[hkd]
      simp_all
     have hlt:j < bs.length:=hjl
     rw[if_pos hk]at htk
     generalize hH4:Hp.set (Hp.alloc H3 _) H3.next _=H4
     have n4:H4.next=H3.next+1:=by rw[← hH4];rfl
     have g4:H4.get H3.next=some (.cells [c0,c1,c2,c3,c4,c5,c6,c7,c8,c9,d0,d1,d2,d3,d4,d5,d6] 0 true):=by rw[← hH4,Hp.get_set,if_pos rfl]
     have k4:∀ q,q < H3.next→H4.get q=H3.get q:=fun q h=>by rw[← hH4,Hp.get_set,if_neg (by omega),zai h]
     clear hH4
     obtain⟨n4a,n4b⟩:H4.next≤H3.next+1∧H3.next+1≤H4.next:=by omega
     clear n4
     have bsT:=bsT1 H4 (cs:=[c0,c1,c2,c3,c4,c5,c6,c7,c8,c9,d0,d1,d2,d3,d4,d5,d6]) rfl
     have hx:yk (H4.alloc (.cells [c0,c1,c2,c3,c4,c5,c6,c7,c8,c9,d0,d1,d2,d3,d4,d5,d6] 0 true)) 17 (.sl H4.next 0 1 17)=some ([[c0,c1,c2,c3,c4,c5,c6,c7,c8,c9,d0,d1,d2,d3,d4,d5,d6]].length,[[c0,c1,c2,c3,c4,c5,c6,c7,c8,c9,d0,d1,d2,d3,d4,d5,d6]].flatten):=by
      rw[zdV (H:=H4.alloc (.cells [c0,c1,c2,c3,c4,c5,c6,c7,c8,c9,d0,d1,d2,d3,d4,d5,d6] 0 true)) (r:=H4.next) (o:=0) (n:=1) (z:=17) (s:=17) (cs:=[c0,c1,c2,c3,c4,c5,c6,c7,c8,c9,d0,d1,d2,d3,d4,d5,d6]) (imm:=0) (tip:=true) (by rw[za,if_pos rfl]) rfl];rfl
     have kB:∀ k,k < H2.next→(H4.alloc (.cells [c0,c1,c2,c3,c4,c5,c6,c7,c8,c9,d0,d1,d2,d3,d4,d5,d6] 0 true)).get k=H2.get k:=fun k h=>by rw[zai (by omega),k4 k (by omega),k3 k h]
     obtain⟨v',H5,p1,p2,p3,p3',p4,p5,_⟩:=pushC (P:=Try.prog) (t:=48) (u:=48) Try.underlying48 sz55 bt55 zStmt rfl (by kernel_rfl) (r3.keep (S':=fun k=>k≠rf∧k≠Hq.next) (H':=H4.alloc (.cells [c0,c1,c2,c3,c4,c5,c6,c7,c8,c9,d0,d1,d2,d3,d4,d5,d6] 0 true)) (fun _ _ h=>h) (by simp only[zb];omega) fun k _ h=>by rw[zai (by omega),k4 k h]) (by show H4.next+1≠_∧H4.next+1≠_;omega) (rows:=[[c0,c1,c2,c3,c4,c5,c6,c7,c8,c9,d0,d1,d2,d3,d4,d5,d6]]) (w:=[bs[j].cells]) hx (by rw[List.flatten_cons,List.flatten_nil,List.append_nil];exact hone)
      ⟨⟨rfl,hcw.keep2 (fun k h1 h2=>⟨h2,fun o m z' e=>by have:=l3 k o m z' e;omega⟩) (by simp only[zb];omega) fun k _ h=>kB k h⟩,trivial⟩ (by rw[List.length_map];simp only[show zW=70368744177664 from rfl,List.length_cons,List.length_nil];omega) (by rw[List.length_map];simp only[show zW=70368744177664 from rfl,List.length_cons,List.length_nil];omega)
     simp only[zb]at p3 p3' p4 p5
     obtain⟨o7,o7'⟩:=p2.one
     have ziL:yL 17 [c0,c1,c2,c3,c4,c5,c6,c7,c8,c9,d0,d1,d2,d3,d4,d5,d6]=some (.agg [c0,c1,c2,c3,c4,c5,c6,c7,c8,c9,d0,d1,d2,d3,d4,d5,d6]):=rfl
     repeat' (first
      | (apply Rx.nl ?_;clear hK K)|apply Rx.o ?_|apply Rx.on ?_|(apply Rx.gd (fun hg hgp=>?_) (fun hg hgp=>?_)<;>try (cases hg;done))|(apply Rx.cd (fun hb hbp=>?_) (fun hb hbp=>?_)<;>try (cases hb;done))|apply Wp.seq ?_|(apply zd fun K hK=>?_)|apply Wp.block ?_|apply zh ?_|apply Rx.rt ?_|apply zk ?_)
     refine⟨by omega,eL,eL,eN,(by simp only[sB,Nat.reduceBEq, *];exact zT (n:=2 ^ 25) (by omega) (by omega)),?_⟩
     refine⟨v',eE,by rw[htk];exact p2,fun k o m z' e=>?_,fun q hq=>?_⟩
     ·rcases p5 k o m z' e with e2|e2
      ·omega
      ·rw[e2]at e;exact l3 k o m z' e
     ·rw[p4 q (by omega) fun o m z' e=>by have:=l3 q o m z' e;omega]
      exact kB q hq
   ·have hje:j=bs.length:=by omega
    subst hje
    rw[List.take_length,← ebs]at r3
    have rk:∀ {B:AV}{ws:List (List AV)}{b:HB},yh (fun k=>k≠rf∧k≠Hq.next) 14 H2 17 B ws→yh (fun k=>k≠rf∧k≠Hq.next) 14 (H3.set rf b) 17 B ws:=fun h=>h.keep (fun _ _ h=>h) nx3 fun k h1 h2=>by rw[Hp.get_set,if_neg h1.1,k3 k h2]
    have rk3:∀ {b:HB},yh (fun k=>k≠rf∧k≠Hq.next) 14 (H3.set rf b) 17 u3 _:=fun {b}=>r3.keep (S':=fun k=>k≠rf∧k≠Hq.next) (H':=H3.set rf b) (fun _ _ h=>h) (Nat.le_refl _) fun k h1 h2=>by rw[Hp.get_set,if_neg h1.1]
    have hlt:(0:Nat) < 2:=by omega
    repeat' (first
     | (apply Rx.nl ?_;clear hK K)|apply Rx.o ?_|apply Rx.on ?_|(apply Rx.gd (fun hg hgp=>?_) (fun hg hgp=>?_)<;>try (cases hg;done))|(apply Rx.cd (fun hb hbp=>?_) (fun hb hbp=>?_)<;>try (cases hb;done))|apply Wp.seq ?_|(apply zd fun K hK=>?_)|apply Wp.block ?_|apply zh ?_|apply Rx.rt ?_|apply zk ?_)
    all_goals (try (exact absurd hbp (by omega)))
    refine⟨by omega,eL,eL,eN,(by simp only[sB,Nat.reduceBEq, *];exact zT (n:=2) (by omega) (by omega)),?_⟩
    first
    | exact⟨u3,B1,by rw[Hp.get_set,if_pos rfl],rk3,rk r1,fun q h1 h2=>by rw[Hp.get_set,if_neg h2,k3 q (by omega)];exact k2 q h1 h2⟩
    | exact⟨B0,u3,by rw[Hp.get_set,if_pos rfl],rk r0,rk3,fun q h1 h2=>by rw[Hp.get_set,if_neg h2,k3 q (by omega)];exact k2 q h1 h2⟩
 ·have hie:i=2:=by omega
  subst hie
  repeat' (first
   | (apply Rx.nl ?_;clear hK K)|apply Rx.o ?_|apply Rx.on ?_|(apply Rx.gd (fun hg hgp=>?_) (fun hg hgp=>?_)<;>try (cases hg;done))|(apply Rx.cd (fun hb hbp=>?_) (fun hb hbp=>?_)<;>try (cases hb;done))|apply Wp.seq ?_|(apply zd fun K hK=>?_)|apply Wp.block ?_|apply zh ?_|apply Rx.rt ?_|apply zk ?_)
  have cv:∀ {b z:Nat}{v:AV}{ws:List (List AV)},b≠2→yh (fun q=>pt q=b) 14 Hq z v ws→RdW (fun _=>True) 50 H2 v (.lst ws):=fun hb h=>(h.keep (S':=fun _=>True) (H':=H2) (fun _ _ _=>trivial) (by omega) fun k h1 h2=>by rw[k2 k (by omega) (fun e=>by have:=hP.lrf;rw[e]at h1;omega),k1 k h2]).rd.up (by omega)
  have cw:∀ {b:Nat}{cs ds:List AV},b≠2→ym (fun q=>pt q=b) 14 Hq cs ds→ym (fun _=>True) 50 H2 cs ds:=fun hb h=>(h.keep2 (S':=fun _=>True) (H':=H2) (fun _ _ _=>trivial) (by omega) fun k h1 h2=>by rw[k2 k (by omega) (fun e=>by have:=hP.lrf;rw[e]at h1;omega),k1 k h2]).up (by omega)
  have q0:RdW (fun _=>True) 50 H2 B0 (.lst ((yF (yH (l.take 60))).body.map St.cells)):=by
   have h:yh (fun k=>k≠rf∧k≠Hq.next) 14 H2 17 B0 ((bF.filter yC).map St.cells):=r0
   rw[← hbF]at h
   exact(h.keep (S':=fun _=>True) (H':=H2) (fun _ _ _=>trivial) (Nat.le_refl _) fun _ _ _=>rfl).rd.up (by omega)
  have q1:RdW (fun _=>True) 50 H2 B1 (.lst ((yF (ya (l.take 60))).body.map St.cells)):=by
   have h:yh (fun k=>k≠rf∧k≠Hq.next) 14 H2 17 B1 ((bG.filter yC).map St.cells):=r1
   rw[← hbG]at h
   exact(h.keep (S':=fun _=>True) (H':=H2) (fun _ _ _=>trivial) (Nat.le_refl _) fun _ _ _=>rfl).rd.up (by omega)
  have cc:ym (fun _=>True) 51 H2 [.sl ra 0 2 2,.sl rf 0 2 9] (zcm l).cells:=by
   refine .cons ?_ (.cons ?_ .nil)
   ·have eA:(zcm l).arrays.map Ar.cells=[[.str [97],.int .i64 x],[.str [98],.int .i64 y]]:=by show(zbk (l.take 60)).map Ar.cells=_;rw[hA];rfl
    rw[eA]
    exact RdW.rows (n:=50) (a:=[[.str [97],.int .i64 x],[.str [98],.int .i64 y]]) (imm:=0) (tip:=true) trivial (by omega) (by rw[k2 ra (by omega) hne,k1 ra ltA];exact ga) (by simp) ⟨⟨rfl,.cons (.str _) (.cons (.int _ _) .nil)⟩,⟨rfl,.cons (.str _) (.cons (.int _ _) .nil)⟩,trivial⟩
   ·exact RdW.rows (n:=50) (a:=[[.str [102],pf,lf,B0,v0,v1,v2,v3,v4],[.str [103],pg,lg,B1,w0,w1,w2,w3,w4]]) (b:=[(yF (yH (l.take 60))).cells,(yF (ya (l.take 60))).cells]) (imm:=0) (tip:=true) trivial (by omega) g2 (by simp) ⟨⟨rfl,zhw (n:=49) [102] rfl (cv (by omega) hP.F.ps) (cv (by omega) hP.F.ls) q0 (cw (by omega) hP.F.vw)⟩,⟨rfl,zhw (n:=49) [103] rfl (cv (by omega) hP.G.ps) (cv (by omega) hP.G.ls) q1 (cw (by omega) hP.G.vw)⟩,trivial⟩
  refine WpL.call rfl eVk eAk ?_;simp only[List.cons_append,List.nil_append,List.append_nil]
  refine zr.mono ?_ (lwX (fun _=>rfl) rfl (n:=51) (by omega) cc (zr0 hL))
  rintro _ H3 ⟨rfl,hI⟩
  obtain⟨f,g,hlow,cF,cG⟩:=zvE hL
  rw[hlow]
  have huc:(Un.mk (zbk (l.take 60)) [f,g]).cells=[.lst ((zbk (l.take 60)).map Ar.cells),.lst ([f,g].map Gr.cells)]:=rfl
  have hgs:([f,g]:List Gr).length=2:=rfl
  have hch:∀ x∈([f,g]:List Gr),ChG x:=fun x hx=>by
   simp only[List.mem_cons,List.not_mem_nil,or_false]at hx
   rcases hx with rfl|rfl
   ·exact cF
   ·exact cG
  have hin:Hq.next≤H3.next:=by have:=hI.next;omega
  clear q0 q1 cc cv cw r0 r1 g2 gp2 k2 hI hlow cF cG hnH g1 gf ga
  generalize (zbk (l.take 60)).map Ar.cells=ars at *
  generalize ([f,g]:List Gr)=gs at *
  dsimp only[zA]
  simp only[huc]
  repeat' (first
   | (apply Rx.nl ?_;clear hK K)|apply Rx.o ?_|apply Rx.on ?_|(apply Rx.gd (fun hg hgp=>?_) (fun hg hgp=>?_)<;>try (cases hg;done))|(apply Rx.cd (fun hb hbp=>?_) (fun hb hbp=>?_)<;>try (cases hb;done))|apply Wp.seq ?_|(apply zd fun K hK=>?_)|apply Wp.block ?_|apply zh ?_|apply Rx.rt ?_|apply zk ?_)
  generalize hH4:Hp.set (Hp.alloc H3 _) H3.next _=H4
  have g4:H4.get H3.next=some (.cells [.lst ars,.lst (gs.map Gr.cells)] 0 true):=by rw[← hH4,Hp.get_set,if_pos rfl]
  have n4:H3.next+1≤H4.next:=by rw[← hH4];exact Nat.le_refl _
  clear hH4
  refine yd [8,74,75] [] 76 2 (fun i E H=>H.get H3.next=some (.cells [.lst ars,.lst (gs.map Gr.cells)] 0 true)) eE g4 ?_
  rintro i E5 H5 hi5 hcE hrH hnH hsI g5
  (try simp only[zi,zl,and_true,sB,sO,Nat.reduceBEq,Nat.reduceAdd,Nat.reduceLeDiff,tyF, *]at hcE)
  (try simp only[zi,zl,and_true,sB,sO,Nat.reduceBEq,Nat.reduceAdd,Nat.reduceLeDiff,tyF, *]at hrH)
  (try simp only[zb,ze,zH,Nat.zero_add,Nat.reduceAdd]at hnH)
  have nx5:H3.next+1≤H5.next:=Nat.le_trans n4 hnH
  have e5:(H3.next == H5.next)=false:=zP (by omega)
  by_cases hlt:i < 2
  ·have hlt':(i:Int) < ((2:Nat):Int):=by omega
   have hgx:gs[i]?=some (gs[i]'(by omega)):=List.getElem?_eq_getElem (by omega)
   have hx:=hch _ (List.getElem_mem (by omega:i < gs.length))
   generalize gs[i]'(by omega)=g at *
   obtain⟨c1,c2,c3,c4⟩:=hx
   have agG:yL 5 g.cells=some (.agg g.cells):=rfl
   obtain⟨N,hN⟩:∃ N,g.nodes.length=N:=⟨_,rfl⟩
   rw[hN]at c1
   repeat' (first
    | (apply Rx.nl ?_;clear hK K)|apply Ry.o ?_|apply Ry.on ?_|(apply Ry.gd (fun hg hgp=>?_) (fun hg hgp=>?_)<;>try (cases hg;done))|(apply Ry.cd (fun hb hbp=>?_) (fun hb hbp=>?_)<;>try (cases hb;done))|apply Wp.seq ?_|(apply zd fun K hK=>?_)|apply Wp.block ?_|apply zh ?_|apply Rx.rt ?_|apply zk ?_)
   refine yd [8,11,12,74,75,76,81,82] [] 83 N (fun j E H=>(∀ q,q < H5.next+1→H.get q=((H5.alloc (.cells [.str [],.int .i64 0,.nilS,.int .i64 0,.int .i64 0] 0 true)).set H5.next (.cells g.cells 0 true)).get q)∧zlT (g.nodes.take j)) eE ⟨fun _ _=>rfl,by rw[List.take_zero];intro m hm;cases hm⟩ ?_
   rintro j E6 H6 hj6 hcE hrH hnH hsI ⟨k6,h22⟩
   (try simp only[zi,zl,and_true,sB,sO,Nat.reduceBEq,Nat.reduceAdd,Nat.reduceLeDiff,tyF, *]at hcE)
   (try simp only[zi,zl,and_true,sB,sO,Nat.reduceBEq,Nat.reduceAdd,Nat.reduceLeDiff,tyF, *]at hrH)
   (try simp only[zb,ze,zH,Nat.zero_add,Nat.reduceAdd]at hnH)
   have nx6:H5.next+1≤H6.next:=by assumption
   have g6:H6.get H5.next=some (.cells g.cells 0 true):=by rw[k6 _ (by omega),Hp.get_set,if_pos rfl]
   have u6:H6.get H3.next=some (.cells [.lst ars,.lst (gs.map Gr.cells)] 0 true):=by rw[k6 _ (by omega),Hp.get_set,if_neg (by omega),zai (by omega)];exact g5
   by_cases hl6:j < N
   ·have hl6':(j:Int) < N:=by omega
    have hnx:g.nodes[j]?=some (g.nodes[j]'(by omega)):=List.getElem?_eq_getElem (by omega)
    have htk:g.nodes.take (j+1)=g.nodes.take j++[g.nodes[j]'(by omega)]:=by rw[List.take_add_one,hnx];rfl
    generalize g.nodes[j]'(by omega)=n at *
    have agN:yL 3 n.cells=some (.agg n.cells):=rfl
    by_cases hop:n.op=22
    ·repeat' (first
      | (apply Rx.nl ?_;clear hK K)|apply Ry.o ?_|apply Ry.on ?_|(apply Ry.call ?_;first|refine zaF (kLEx _) ?_)|(apply Ry.gd (fun hg hgp=>?_) (fun hg hgp=>?_)<;>try (cases hg;done))|(apply Ry.cd (fun hb hbp=>?_) (fun hb hbp=>?_)<;>try (cases hb;done))|apply Wp.seq ?_|(apply zd fun K hK=>?_)|apply Wp.block ?_|apply zh ?_|apply Rx.rt ?_|apply zk ?_)
     all_goals (refine⟨eI,_,eR,?_⟩;try simp only[zp])
    ·repeat' (first
      | (apply Rx.nl ?_;clear hK K)|apply Ry.o ?_|apply Ry.on ?_|(apply Ry.gd (fun hg hgp=>?_) (fun hg hgp=>?_)<;>try (cases hg;done))|(apply Ry.cd (fun hb hbp=>?_) (fun hb hbp=>?_)<;>try (cases hb;done))|apply Wp.seq ?_|(apply zd fun K hK=>?_)|apply Wp.block ?_|apply zh ?_|apply Rx.rt ?_|apply zk ?_)
     refine⟨by omega,eL,eL,eN,(by simp only[sB,Nat.reduceBEq, *];exact zT (n:=965) (by omega) (by omega)),?_⟩
     refine⟨fun q hq=>by rw[Hp.get_set,if_neg (by omega),zai (by omega)];exact k6 q hq,fun m hm=>?_⟩
     rw[htk,List.mem_append,List.mem_singleton]at hm
     rcases hm with hm|rfl
     ·exact h22 m hm
     ·exact hop
   ·have hl6':¬ (j:Int) < N:=by omega
    have hje:j=N:=by omega
    rw[hje,← hN,List.take_length]at h22
    obtain⟨hc1,hc2⟩:=c4 h22
    repeat' (first
     | (apply Rx.nl ?_;clear hK K)|apply Ry.o ?_|apply Ry.on ?_|(apply Ry.gd (fun hg hgp=>?_) (fun hg hgp=>?_)<;>try (cases hg;done))|(apply Ry.cd (fun hb hbp=>?_) (fun hb hbp=>?_)<;>try (cases hb;done))|apply Wp.seq ?_|(apply zd fun K hK=>?_)|apply Wp.block ?_|apply zh ?_|apply Rx.rt ?_|apply zk ?_)
    all_goals (try (exact absurd hbp (by omega)))
    refine yd [8,11,74,75,76,93,94] [] 95 N (fun j E H=>E.at 12=.int .i64 (zcD g.nodes j)∧∀ q,q < H6.next→H.get q=H6.get q) eE ⟨by show Env.at _ 12=AV.int .i64 0;exact eE,fun _ _=>rfl⟩ ?_
    rintro m E7 H7 hm7 hcE hrH hnH hsI ⟨a7,k7⟩
    (try simp only[zi,zl,and_true,sB,sO,Nat.reduceBEq,Nat.reduceAdd,Nat.reduceLeDiff,tyF, *]at hcE)
    (try simp only[zi,zl,and_true,sB,sO,Nat.reduceBEq,Nat.reduceAdd,Nat.reduceLeDiff,tyF, *]at hrH)
    (try simp only[zb,ze,zH,Nat.zero_add,Nat.reduceAdd]at hnH)
    have nx7:H6.next≤H7.next:=by assumption
    have g7:=(k7 _ (by omega)).trans g6
    have u7:=(k7 _ (by omega)).trans u6
    by_cases hl7:m < N
    ·have hl7':(m:Int) < N:=by omega
     have hnx:g.nodes[m]?=some (g.nodes[m]'(by omega)):=List.getElem?_eq_getElem (by omega)
     generalize g.nodes[m]'(by omega)=n at *
     have hls:zcD g.nodes (m+1)=if stB n=true then (m:Int)else zcD g.nodes m:=by rw[zcD,hnx]
     have hcn:=hc1 m n hnx
     have agN:yL 3 n.cells=some (.agg n.cells):=rfl
     have e7:(H7.next == H5.next)=false:=zP (by omega)
     have e8:(H5.next == H7.next)=false:=zP (by omega)
     by_cases hs:stB n=true
     ·have hk0:=hcn hs
      rw[if_pos hs]at hls
      generalize zcD g.nodes m=z at *
      have hop:n.op=27∨n.op=28∨n.op=29:=by
       unfold stB at hs
       simp only[Bool.or_eq_true,decide_eq_true_eq]at hs
       omega
      rcases hop with hop|hop|hop
      all_goals
       repeat' (first
        | (apply Rx.nl ?_;clear hK K)|apply Ry.o ?_|apply Ry.on ?_|(apply Ry.gd (fun hg hgp=>?_) (fun hg hgp=>?_)<;>try (cases hg;done))|(apply Ry.cd (fun hb hbp=>?_) (fun hb hbp=>?_)<;>try (cases hb;done))|apply Wp.seq ?_|(apply zd fun K hK=>?_)|apply Wp.block ?_|apply zh ?_|apply Rx.rt ?_|apply zk ?_)
       refine⟨by omega,eL,eL,eN,(by simp only[sB,Nat.reduceBEq, *];exact zT (n:=965) (by omega) (by omega)),?_⟩
       exact⟨by rw[hls];exact eE,fun q hq=>by rw[Hp.get_set,if_neg (by omega),zai (by omega)];exact k7 q hq⟩
     ·rw[if_neg hs]at hls
      have hop:¬ n.op=27∧¬ n.op=28∧¬ n.op=29:=by
       unfold stB at hs
       simp only[Bool.or_eq_true,decide_eq_true_eq]at hs
       omega
      obtain⟨p1,p2,p3⟩:=hop
      repeat' (first
       | (apply Rx.nl ?_;clear hK K)|apply Ry.o ?_|apply Ry.on ?_|(apply Ry.gd (fun hg hgp=>?_) (fun hg hgp=>?_)<;>try (cases hg;done))|(apply Ry.cd (fun hb hbp=>?_) (fun hb hbp=>?_)<;>try (cases hb;done))|apply Wp.seq ?_|(apply zd fun K hK=>?_)|apply Wp.block ?_|apply zh ?_|apply Rx.rt ?_|apply zk ?_)
      refine⟨by omega,eL,eL,eN,(by simp only[sB,Nat.reduceBEq, *];exact zT (n:=965) (by omega) (by omega)),?_⟩
      exact⟨by rw[hls];exact eE,fun q hq=>by rw[Hp.get_set,if_neg (by omega),zai (by omega)];exact k7 q hq⟩
    ·have hl7':¬ (m:Int) < N:=by omega
     have hme:m=N:=by omega
     rw[hme,← hN,← hc2]at a7
     have hN0:¬ N=0:=fun e=>by rw[e]at hN;rw[List.eq_nil_of_length_eq_zero hN]at c3;cases c3
     have hN0':¬ (N:Int)=0:=by omega
     repeat' (first
      | (apply Rx.nl ?_;clear hK K)|apply Ry.o ?_|apply Ry.on ?_|(apply Ry.gd (fun hg hgp=>?_) (fun hg hgp=>?_)<;>try (cases hg;done))|(apply Ry.cd (fun hb hbp=>?_) (fun hb hbp=>?_)<;>try (cases hb;done))|apply Wp.seq ?_|(apply zd fun K hK=>?_)|apply Wp.block ?_|apply zh ?_|apply Rx.rt ?_|apply zk ?_)
     refine⟨by omega,eL,eL,eN,(by simp only[sB,Nat.reduceBEq, *];exact zT (n:=2) (by omega) (by omega)),?_⟩
     exact u7
  ·have hlt':¬ (i:Int) < ((2:Nat):Int):=by omega
   repeat' (first
    | (apply Rx.nl ?_;clear hK K)|apply Ry.o ?_|apply Ry.on ?_|(apply Ry.call ?_;first|refine zaF (kLEx _) ?_)|(apply Ry.gd (fun hg hgp=>?_) (fun hg hgp=>?_)<;>try (cases hg;done))|(apply Ry.cd (fun hb hbp=>?_) (fun hb hbp=>?_)<;>try (cases hb;done))|apply Wp.seq ?_|(apply zd fun K hK=>?_)|apply Wp.block ?_|apply zh ?_|apply Rx.rt ?_|apply zk ?_)
   all_goals (refine⟨eI,_,eR,?_⟩;try simp only[zp])
theorem con (l:List Int) (hl:l.length < 2 ^ 63) (hL:RgL l):Con Try.prog (fun _=>0) 8 [zkw l] (.bool true):=
 jX fit (pls:=pls) (levC_ok _) (.cons (zkx l) .nil) (.bool _) (law l hl hL)
set_option maxRecDepth 100000 in
theorem walk {H:Type}{enc:TypeId×Value→H} (W:World) (v0:Value) {r:Reach}{b0:Nat} (k0:Value.okWide Try.prog W r b0 23 v0) {d:DataW H}{ps:List MemPlace}{sp:Nat→Bool}{held:Bool} (h0:DataW.Trod enc Try.prog W 0 sp held 23 v0 d ps) :
 Calls Try.prog 8 #[v0] W fun e w'=>e=.returned (.bool true)∧Below W.heap.size W w':=by
 obtain⟨l,hv,hl,hr⟩:=znp k0 h0
 exact zk4 (ρ:=fun _=>0) (F:=memF W) (con l hl hr) (zvF W) (VRs.cons hv (VRs.nil _))
set_option maxRecDepth 100000 in
theorem lifted (os:Os) (started:os.Started) (H:Type) (enc:TypeId×Value→H) :
 ReturnsInHanded {} Try.checked os 8 .any (Rows.lowerStateChainSpec.pre6 enc Try.prog Try.f8 Rows.lowerStateChainRow.domain false) (Rows.lowerStateChainSpec.post enc Try.prog Try.f8 false true false false):=by
 refine returnsInHanded_of_change (C:=Try.checked) own started (by kernel_rfl) Try.func8
  (ChangeSpec.witness6 (enc:=enc) (C:=Try.checked) false ⟨#[],#[.slice none 0 0],[]⟩ 8 (by kernel_rfl) (by kernel_rfl) (by kernel_rfl) (by kernel_rfl)) ?_
 intro W base args ds gs before hval0 hW hcnd _
 have hval:∀ (j:Nat) t v,Try.f8.params[j]?=some t→args[j]?=some v→Value.okWide Try.prog W .any base t v:=hval0
 have hW':=hW
 obtain⟨p,q,hA0,hV,rfl,hfz,hnd⟩:=hW
 have hA:DataW.TrodAll enc Try.prog W 0 (fun _=>true) true Try.f8.params.toList args.toList ds p:=hA0
 rw[Try.params8]at hA hval
 obtain⟨v0,vs0,d0,ds0,p0,q0,hargs,rfl,rfl,h0,r0⟩:=trodAll_cons hA
 obtain⟨rfl,rfl,rfl⟩:=trodAll_nil r0
 obtain rfl:args=#[v0]:=by cases args;simp_all
 obtain⟨rfl,rfl⟩:=trodVars_none hV
 have k0:=hval 0 23 v0 rfl rfl
 clear hA0 hval0
 refine(walk W v0 k0 h0).mono fun e W' ⟨he,hg⟩=>?_
 subst he
 exact⟨_,rfl,zi3 (pv:=[]) hW' (fun _ _ _=>(trodAll_cons_mk (shut_bool Try.underlying4 _) trodAll_mk0)) (fun sp hsp=>(trodAll_cons_mk (zpF (by kernel_rfl) (by kernel_rfl) (of_decide_eq_true (by kernel_rfl)) h0 hg (fun p hp=>hW'.lt p hp) (fun x hx=>by simp[hx]) hsp) trodAll_mk0)) (fun _ _=>rfl) (by simp) hg (ok_one (by kernel_rfl) rfl (okWide_bool_mk Try.underlying4 _))⟩
theorem over:Rows.lowerStateChainRow.holds Try.pinned (OpenSpec.ofChange Rows.lowerStateChainSpec):=
 OpenClaim.holds_of_wide 8 Try.f8 rfl rfl rfl rfl rfl rfl rfl ⟨rfl,rfl,rfl,rfl,rfl⟩ rfl rfl rfl rfl rfl (by kernel_rfl) Try.func8 (by kernel_rfl)
  (of_decide_eq_true (by kernel_rfl)) (by unfold Func.isWrapper;first|(rw[if_pos (by decide +kernel)];kernel_rfl)|(rw[if_neg (by decide +kernel)];exact⟨rfl,rfl⟩))
  (fun os started H enc _=>lifted os started H enc)
theorem proved:Rows.LowerStateChainSaid:=
 over
#print axioms proved
end Go.Proofs.Ytpbcimfiofmoeaa.lowerStateChain
