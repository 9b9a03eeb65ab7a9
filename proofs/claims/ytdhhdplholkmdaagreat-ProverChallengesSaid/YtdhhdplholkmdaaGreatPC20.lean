/- A part of the proof. No condition. -/
import Derived.Test.YtdhhdplholkmdaaGreatProg
import Derived.Test.YtdhhdplholkmdaaGreatPC18
import Derived.Test.YtdhhdplholkmdaaGreatPC19
import Derived.BigQuiet
import Derived.Deep.QuietTactic
import Derived.Test.YtdhhdplholkmdaaGreatPC13

namespace Go.Proofs.YtdhhdplholkmdaaGreat
open Go.RowKit
def J1 (P:Yi):List (List Nat):=[P.code,P.linear,P.quad]++P.cols++[P.salts]++P.paths
def Xf (x:XM) (l:List Nat):Bool:=((l.length:Int) == (x.size:Int))&&l.all (fun n=>decide (n<x.lim))
def Xo (ps:List XM) (ls:List (List Nat)):Bool:=(List.zip ps ls).all fun z=>Xf z.1 z.2
theorem VI (x:XM) (l:List Nat):Xf x l=Yv l (x.size:Int) x.lim:=by unfold Xf Yv;rw [Bool.and_comm]
theorem VW {a b:List XM} {c d:List (List Nat)} (h:a.length=c.length):Xo (a++b) (c++d)=(Xo a c&&Xo b d):=by
 unfold Xo
 rw [List.zip_append h,List.all_append]
theorem Kc {ps:List XM} {ls:List (List Nat)} (h:ps.length=ls.length) (hg:∀ i (h1:i<ps.length) (h2:i<ls.length),Xf ps[i] ls[i]=true):Xo ps ls=true:=by
 unfold Xo
 rw [List.all_eq_true]
 intro z hz
 obtain ⟨i,hi,rfl⟩:=List.getElem_of_mem hz
 have h1:i<ps.length:=by simp at hi;omega
 have h2:i<ls.length:=by simp at hi;omega
 simpa using hg i h1 h2
theorem Jt {ps:List XM} {ls:List (List Nat)} {i:Nat} (h1:i<ps.length) (h2:i<ls.length) (hg:Xf ps[i] ls[i]=false):Xo ps ls=false:=by
 unfold Xo
 rw [List.all_eq_false]
 refine ⟨(ps[i],ls[i]),?_,by rw [hg];exact Bool.noConfusion⟩
 have:(List.zip ps ls)[i]'(by simp;omega)=(ps[i],ls[i]):=by simp
 rw [←this]
 exact List.getElem_mem _
theorem JF (b q n size lim:Nat):(YC b q n size lim).length=n:=by simp [YC]
theorem yf (b q size lim:Nat) (ls:List (List Nat)):Xo (YC b q ls.length size lim) ls=ls.all (fun l=>Yv l (size:Int) lim):=by
 cases h:ls.all (fun l=>Yv l (size:Int) lim) with
 | true =>
  refine Kc (JF _ _ _ _ _) fun i h1 h2=>?_
  rw [VI]
  have:=List.all_eq_true.1 h ls[i] (List.getElem_mem h2)
  simpa [YC] using this
 | false =>
  obtain ⟨l,hl,hb⟩:=List.all_eq_false.1 h
  obtain ⟨i,hi,rfl⟩:=List.getElem_of_mem hl
  refine Jt (i:=i) (by rw [JF];exact hi) hi ?_
  rw [VI]
  have hb':Yv ls[i] (size:Int) lim=false:=by simpa using hb
  simpa [YC] using hb'
theorem jj (x:XM) (l:List Nat):Xo [x] [l]=Xf x l:=by simp [Xo]
theorem zBe (L:YO) (g:Nat) (a b c:List Nat):Xo (Xv L g) [a,b,c]=(Yv a (L.k:Int) L.p&&(Yv b ((L.k+L.block-1:Nat):Int) L.p&&Yv c ((2*L.k-1:Nat):Int) L.p)):=by
 simp only [Xo,Xv,List.zip_cons_cons,List.zip_nil_right,List.all_cons,List.all_nil,Bool.and_true,VI]
theorem jY (L:YO) (j g b4 q4 b6 q6:Nat) (P:Yi) (h4:P.cols.length=L.queries) (h6:P.paths.length=L.queries) (hr:decide (VC≤P.root)=false) :
  VZ L j P=Xo (Xz L j g b4 q4 b6 q6) (J1 P):=by
 unfold Xz J1 VZ
 rw [VW,VW,VW]
 ·rw [←h4,yf,h4,←h6,yf,h6,jj,VI,zBe,hr]
  unfold Y5
  rw [h4,h6]
  simp only [beq_self_eq_true,Bool.and_true,Bool.not_false,Bool.true_and,Bool.and_assoc]
 ·simp [Xv]
 ·simp [Xv,YC,h4]
 ·simp [Xv,YC,h4]
theorem zEn {L:YO} {j:Nat} {P:Yi} (h:¬(P.cols.length=L.queries∧P.paths.length=L.queries)):VZ L j P=false:=by
 by_cases h4:P.cols.length=L.queries
 ·have h6:((P.paths.length:Int) == (L.queries:Int))=false:=by rw [beq_eq_false_iff_ne];omega
  simp [VZ,Y5,h6]
 ·have h6:((P.cols.length:Int) == (L.queries:Int))=false:=by rw [beq_eq_false_iff_ne];omega
  simp [VZ,Y5,h6]
theorem zBs {L:YO} {j:Nat} {P:Yi} (h:decide (VC≤P.root)=true):VZ L j P=false:=by
 unfold VZ
 rw [h]
 rfl
def yW (w:World) (x:XM) (l:List Nat):Prop:=∃ b o A n c,x.ptr=⟨b,o,none⟩∧w.cell? ⟨b,o,none⟩=some (.slice A n c)∧RWd w [.slice A n c] l
def Ji (w:World) (ps:List XM) (ls:List (List Nat)):Prop:=ps.length=ls.length∧∀ i (h1:i<ps.length) (h2:i<ls.length),yW w ps[i] ls[i]
theorem Kf {w w':World} {x:XM} {l:List Nat} (h:yW w x l) (hb:Below w.heap.size w w'):yW w' x l:=by
 obtain ⟨b,o,A,n,c,e,hc,hr⟩:=h
 exact ⟨b,o,A,n,c,e,YL hb hc,Zl _ _ _ _ hb hr⟩
theorem VR {w:World} {a b:List XM} {c d:List (List Nat)} (h:Ji w a c) (k:Ji w b d):Ji w (a++b) (c++d):=by
 refine ⟨by rw [List.length_append,List.length_append,h.1,k.1],fun i h1 h2=>?_⟩
 rcases Nat.lt_or_ge i a.length with hi | hi
 ·rw [List.getElem_append_left hi,List.getElem_append_left (by rw [←h.1];exact hi)]
  exact h.2 i hi (by rw [←h.1];exact hi)
 ·rw [List.getElem_append_right hi,List.getElem_append_right (by rw [←h.1];exact hi)]
  have e:i-a.length=i-c.length:=by rw [h.1]
  have:=k.2 (i-a.length) (by simp at h1;omega) (by rw [List.length_append] at h2;rw [h.1];have:=h.1;omega)
  simpa [e] using this
theorem ys {w:World} {b q size lim:Nat} {ls:List (List Nat)} (h:RdL w 1 RWd (some ⟨b,q,none⟩) ls):Ji w (YC b q ls.length size lim) ls:=by
 refine ⟨JF _ _ _ _ _,fun i h1 h2=>?_⟩
 obtain ⟨b',q',A,n,c,hA,-,hc,hr⟩:=Kx h h2
 injection hA with hA
 injection hA with e1 e2
 subst e1
 subst e2
 exact ⟨b,q+i,A,n,c,by simp [YC],hc,hr⟩
theorem kX {w:World} {L:YO} {j g b4 q4 b6 q6:Nat} {P:Yi} {S:PS} (kg:Blk w g 35 (Y3 P S)) (h:Js w P S) (h4:P.cols.length=L.queries) (h6:P.paths.length=L.queries) (hA4:S.A4=some ⟨b4,q4,none⟩) (hA6:S.A6=some ⟨b6,q6,none⟩) :
  Ji w (Xz L j g b4 q4 b6 q6) (J1 P):=by
 have r4:=(Vd h.cols).2.2.2
 have r6:=(Vd h.paths).2.2.2
 rw [hA4] at r4
 rw [hA6] at r6
 have one:∀ (i:Nat) (s lim:Nat) (l:List Nat) (A:Option Addr) (n c:Nat),(Y3 P S)[i]?=some (.slice A n c)→RWd w [.slice A n c] l→yW w ⟨⟨g,i,none⟩,s,lim⟩ l :=
  fun i s lim l A n c hi hr=>⟨g,i,A,n,c,rfl,(kg.cell i).trans hi,hr⟩
 refine VR (VR (VR ?_ ?_) ?_) ?_
 ·refine ⟨rfl,fun i h1 h2=>?_⟩
  match i,h1 with
  | 0,_=>exact one 1 _ _ _ _ _ _ rfl h.code
  | 1,_=>exact one 2 _ _ _ _ _ _ rfl h.linear
  | 2,_=>exact one 3 _ _ _ _ _ _ rfl h.quad
 ·rw [←h4];exact ys r4
 ·refine ⟨rfl,fun i h1 h2=>?_⟩
  match i,h1 with
  | 0,_=>exact one 5 _ _ _ _ _ _ rfl h.salts
 ·rw [←h6];exact ys r6
theorem zAy:∀ (l:List XM) (k:Nat) (h:k<l.length),(pcs l)[k*3]?=some (.pointer (some l[k].ptr))∧(pcs l)[k*3+1]?=some (.int .i64 (l[k].size:Int))∧(pcs l)[k*3+2]?=some (.int .u64 (l[k].lim:Int))
 | x :: l,0,_=>⟨rfl,rfl,rfl⟩
 | x :: l,k+1,h=>by
  have:=zAy l k (by simpa using h)
  have e:pcs (x :: l)=[.pointer (some x.ptr), .int .i64 (x.size:Int), .int .u64 (x.lim:Int)]++pcs l:=rfl
  rw [e]
  refine ⟨?_,?_,?_⟩
  ·rw [List.getElem?_append_right (by simp;omega)]
   have e1:(k+1)*3 - [Value.pointer (some x.ptr), .int .i64 (x.size:Int), .int .u64 (x.lim:Int)].length=k*3:=by simp;omega
   rw [e1];exact this.1
  ·rw [List.getElem?_append_right (by simp;omega)]
   have e1:(k+1)*3+1 - [Value.pointer (some x.ptr), .int .i64 (x.size:Int), .int .u64 (x.lim:Int)].length=k*3+1:=by simp;omega
   rw [e1];exact this.2.1
  ·rw [List.getElem?_append_right (by simp;omega)]
   have e1:(k+1)*3+2 - [Value.pointer (some x.ptr), .int .i64 (x.size:Int), .int .u64 (x.lim:Int)].length=k*3+2:=by simp;omega
   rw [e1];exact this.2.2
set_option maxRecDepth 100000 in
set_option maxHeartbeats 1500000 in
theorem zg (L:YO) (j:Nat) (P:Yi) (S:PS) (w:World) (hL:Y7 L) (hn:L.n=2^j) (hj:j≤10) (h:Js w P S) :
  Calls Tryz.prog 53 #[.agg (ZH L), .agg (Y3 P S)] w fun e w'=>e= .returned (.bool (VZ L j P))∧Below w.heap.size w w':=by
 have hb0:Below w.heap.size w ((w.alloc (.cells (ZH L) 50)).alloc (.cells (Y3 P S) 35)):=((Below.refl _ w).alloc (Nat.le_refl _) _).alloc (by simp) _
 have kg:Blk ((w.alloc (.cells (ZH L) 50)).alloc (.cells (Y3 P S) 35)) (w.heap.size+1) 35 (Y3 P S):=by
  have:=Blk.new (w.alloc (.cells (ZH L) 50)) 35 (Y3 P S)
  simpa using this
 have hin:=Xs h hb0
 obtain ⟨e4,a4,m4,r4⟩:=Vd h.cols
 obtain ⟨e6,a6,m6,r6⟩:=Vd h.paths
 by_cases z:S.n4=L.queries∧S.n6=L.queries
 rotate_left
 ·have HZ:=Lib.hid (zEn (L:=L) (j:=j) (P:=P) (by rw [←e4,←e6];exact z))
  have HP:=Lib.hid (zA8 L P S (w.heap.size+1) _ kg z)
  clear z e4 a4 m4 r4 e6 a6 m6 r6 hin kg h hn hj hL
  unfold ZH Y3 at *
  have hnil:=fun (w:World) (a:Option Addr) (n c:Nat)=>Lib.run_eql_slice_nil (P:=Tryz.prog) w 195 200 a n c 0 0 Tryz.underlying195
  go_enter Tryz.func53,Tryz.ntmps53
  go_wp2_with fail
  refine HP.out.mono ?_
  rintro e w1 ⟨rfl,hb⟩
  go_wp2
  go_ret
  exact ⟨by rw [HZ.out];rfl,Za hb0 hb⟩
 obtain ⟨z4,z6⟩:=z
 have hq:=hL.q1
 obtain ⟨b4,q4,hA4⟩:=r4.base (by omega) (by omega)
 obtain ⟨b6,q6,hA6⟩:=r6.base (by omega) (by omega)
 have HP:=Lib.hid (xM L j P S (w.heap.size+1) b4 q4 b6 q6 _ hL hn hj kg z4 z6 kg.lt hA4 hA6 ⟨a4,m4⟩ ⟨a6,m6⟩)
 have hps:=kX (L:=L) (j:=j) kg hin (by rw [←e4];exact z4) (by rw [←e6];exact z6) hA4 hA6
 cases hr:decide (VC≤P.root)
 rotate_left
 ·have HZ:=Lib.hid (zBs (L:=L) (j:=j) (P:=P) hr)
  have d1:decide ((18446744069414584321:Int)≤(P.root:Int))=true:=decide_eq_true (by have:=of_decide_eq_true hr;unfold VC at this;omega)
  have d2:decide (18446744069414584321≤P.root)=true:=hr
  clear hr hps hA4 hA6 z4 z6 e4 a4 m4 r4 e6 a6 m6 r6 hin h hq hL hn hj
  have hpp:0<(Xz L j (w.heap.size+1) b4 q4 b6 q6).length:=by simp [Xz,Xv]
  generalize Xz L j (w.heap.size+1) b4 q4 b6 q6=ps at *
  unfold ZH Y3 at *
  have hnil:=fun (w:World) (a:Option Addr) (n c:Nat)=>Lib.run_eql_slice_nil (P:=Tryz.prog) w 195 200 a n c 0 0 Tryz.underlying195
  go_enter Tryz.func53,Tryz.ntmps53
  go_wp2_with fail
  refine HP.out.mono ?_
  rintro e w1 ⟨v,n,rfl,hown,hb⟩
  have kg1:=kg.below hb kg.lt
  have cg:=kg1.cell
  clear kg
  have hnn:0<n:=by have:=hown.1;rw [zAq] at this;omega
  obtain ⟨r,cr,rfl,hr1,hr2⟩:=UJ hown hnn
  go_wp2
  go_ret
  exact ⟨by rw [HZ.out];rfl,Za hb0 hb⟩
 have HZ:=Lib.hid (jY L j (w.heap.size+1) b4 q4 b6 q6 P (by rw [←e4];exact z4) (by rw [←e6];exact z6) hr)
 have d1:decide ((18446744069414584321:Int)≤(P.root:Int))=false:=decide_eq_false (by have:=of_decide_eq_false hr;unfold VC at this;omega)
 have d2:decide (18446744069414584321≤P.root)=false:=hr
 have hpp:0<(Xz L j (w.heap.size+1) b4 q4 b6 q6).length:=by simp [Xz,Xv]
 have hpb:(Xz L j (w.heap.size+1) b4 q4 b6 q6).length≤200:=by have:=hL.q2;simp [Xz,Xv,YC];omega
 rw [HZ.out]
 clear HZ hr hA4 hA6 z4 z6 e4 a4 m4 r4 e6 a6 m6 r6 hin h hq hL hn hj
 generalize Xz L j (w.heap.size+1) b4 q4 b6 q6=ps at *
 generalize J1 P=ls at *
 unfold ZH Y3 at *
 have hnil:=fun (w:World) (a:Option Addr) (n c:Nat)=>Lib.run_eql_slice_nil (P:=Tryz.prog) w 195 200 a n c 0 0 Tryz.underlying195
 go_enter Tryz.func53,Tryz.ntmps53
 go_wp2_with fail
 refine HP.out.mono ?_
 rintro e w1 ⟨v,n,rfl,hown,hb⟩
 have kg1:=kg.below hb kg.lt
 have cg:=kg1.cell
 have hps1:Ji w1 ps ls:=⟨hps.1,fun i h1 h2=>Kf (hps.2 i h1 h2) hb⟩
 replace hb0:=Za hb0 hb
 clear kg kg1 hps HP hb
 have hnn:n=ps.length:=by have:=hown.1;rw [zAq] at this;omega
 obtain ⟨r,cr,rfl,hr1,hr2⟩:=UJ hown (by omega)
 have hrow:∀ i u,(pcs ps)[i]?=some u→w1.cell? ⟨r,i,none⟩=some u:=fun i u hu=>by
  obtain ⟨ad,e,hc⟩:=(Rd.of_own hown).2 (by omega)
  injection e with e
  subst e
  have:=hc i u hu
  simpa [Uk] using this
 have HROW:=Lib.hid hrow
 clear hrow hown
 subst hnn
 have HPS:=Lib.hid hps1
 clear hps1
 have gm:(ps.length:Int)≤200:=by omega
 go_wp2_with fail
 go_loopw [19] (fun i wr=>∃ k:Nat,k≤ps.length∧i= .int .i64 (k:Int)∧Below w1.heap.size w1 wr∧Hid (∀ i (h1:i<ps.length) (h2:i<ls.length),i<k→Xf ps[i] ls[i]=true)) (fun i _=>ps.length-(intOf i).toNat)
 case atStart=>exact ⟨0,Nat.zero_le _,rfl,Below.refl _ _,fun i h1 h2 h3=>by omega⟩
 case round =>
  clear cg
  obtain ⟨k,hk,rfl,hbr,HG⟩:=hrel
  by_cases hlt:k<ps.length
  ·have hlt2:k<ls.length:=by rw [←HPS.out.1];exact hlt
   obtain ⟨b,o,A,nn,cc,eptr,hc,hrw⟩:=Kf (HPS.out.2 k hlt hlt2) hbr
   obtain ⟨u0,u1,u2⟩:=zAy ps k hlt
   have c0:=YL hbr (HROW.out _ _ u0)
   have c1:=YL hbr (HROW.out _ _ u1)
   have c2:=YL hbr (HROW.out _ _ u2)
   rw [eptr] at c0
   clear u0 u1 u2
   have HGood:Hid (Xf ps[k] ls[k]=(((ls[k].length:Int) == (ps[k].size:Int))&&ls[k].all (fun n=>decide (n<ps[k].lim)))):=rfl
   have HB:=Lib.hid (fun w (h:RWd w [.slice A nn cc] ls[k])=>Kl A nn cc ls[k] ps[k].lim w h)
   have HL1:=Lib.hid hlt
   have HL2:=Lib.hid hlt2
   obtain ⟨enn,hcc1,hcc2,-,-⟩:=J3 hrw
   have gnn:=Vo hcc1 hcc2
   have ENN:=Lib.hid enn
   clear enn hcc1 hcc2 eptr
   have HFAIL:=Lib.hid (fun (hh:Xf ps[k] ls[k]=false)=>Jt hlt hlt2 hh)
   have HSTEP:=Lib.hid (fun (hh:Xf ps[k] ls[k]=true)=>(fun i (h1:i<ps.length) (h2:i<ls.length) (h3:i<k+1)=>(by
    rcases Nat.lt_or_ge i k with h5 | h5
    ·exact HG.out i h1 h2 h5
    ·have e:i=k:=by omega
     subst e
     exact hh:Xf ps[i] ls[i]=true)))
   revert c1 c2 HGood HB
   generalize ps[k].size=size
   generalize ps[k].lim=lim
   generalize hall:ls[k].all (fun n=>decide (n<lim))=bb
   intro c1 c2 HGood HB
   clear hall
   have lb:b<wr.heap.size:=World.block_lt_of_cell? _ _ hc
   have lr:r<wr.heap.size:=World.block_lt_of_cell? _ _ c0
   have g1:(0:Int)≤(k:Int):=by omega
   have g2:(k:Int)<(ps.length:Int):=by omega
   have hal:=(Below.refl wr.heap.size wr).alloc (Nat.le_refl _) (.cells #[.pointer (some ⟨b,o,none⟩), .int .i64 (size:Int), .int .u64 (lim:Int)] 200)
   have kx:=Blk.new wr 200 #[.pointer (some ⟨b,o,none⟩), .int .i64 (size:Int), .int .u64 (lim:Int)]
   by_cases zs:nn=size
   rotate_left
   ·have y1:((nn:Int) != (size:Int))=true:=by rw [bne_iff_ne];omega
    have HF:=Lib.hid (HFAIL.out (HGood.out.trans (by rw [←ENN.out,show ((nn:Int) == (size:Int))=false by rw [beq_eq_false_iff_ne];omega];rfl)))
    clear zs
    go_wp2_with fail
    replace hrw:=Zl _ _ _ _ hal hrw
    replace hc:=YL hal hc
    replace hbr:=Za hbr hal
    replace lb:b<(wr.alloc (.cells #[.pointer (some ⟨b,o,none⟩), .int .i64 (size:Int), .int .u64 (lim:Int)] 200)).heap.size:=World.block_lt_of_cell? _ _ hc
    clear c0 c1 c2 lr hal
    revert kx hrw hc hbr lb
    generalize wr.alloc _=w7
    generalize wr.heap.size=gx
    intro kx hrw hc hbr lb
    have cx:=kx.cell
    have lx:=kx.lt
    refine Zx (Yj) [15] [0,1,2,3,4,5,6,7,8,9,10,11,12,13,14,15,16,17] (by kernel_rfl) (by kernel_rfl) ?_
    refine Yt (later_moves) ?_
    intro Wc hacc
    repeat (first | (refine Zh (later_moves) rfl rfl (fun _ _ _ h=>h) ?_;simp only [Act.put,zLa,zLb,zLc]) | (refine Ze (v:=?_) (later_moves) rfl rfl (fun _ _ _ h=>h) ?_ ?_;rotate_left;(· (intro w' hR;(first | have hcells:=Zd ((later_moves).trans _ _ _ hacc hR) | skip);go_simp;try with_reducible rfl));simp only [Act.put,zLa,zLb,zLc]))
    refine Zt ?_
    go_wp2
    go_ret
    exact ⟨by rw [HF.out];rfl,Za (Za hb0 hbr.drew) hacc⟩
   have y1:((nn:Int) != (size:Int))=false:=by rw [bne_eq_false_iff_eq];omega
   have HGG:=Lib.hid (show Xf ps[k] ls[k]=bb from HGood.out.trans (by rw [←ENN.out,show ((nn:Int) == (size:Int))=true by rw [beq_iff_eq];omega];rfl))
   clear zs HGood
   go_wp2_with fail
   replace hrw:=Zl _ _ _ _ hal hrw
   replace hc:=YL hal hc
   replace hbr:=Za hbr hal
   replace lb:b<(wr.alloc (.cells #[.pointer (some ⟨b,o,none⟩), .int .i64 (size:Int), .int .u64 (lim:Int)] 200)).heap.size:=World.block_lt_of_cell? _ _ hc
   clear c0 c1 c2 lr hal
   revert kx hrw hc hbr lb
   generalize wr.alloc _=w7
   generalize wr.heap.size=gx
   intro kx hrw hc hbr lb
   have cx:=kx.cell
   have lx:=kx.lt
   refine Zx (Yj) [15] [0,1,2,3,4,5,6,7,8,9,10,11,12,13,14,15,16,17] (by kernel_rfl) (by kernel_rfl) ?_
   refine Yt (later_moves) ?_
   intro Wc hacc
   repeat (first | (refine Zh (later_moves) rfl rfl (fun _ _ _ h=>h) ?_;simp only [Act.put,zLa,zLb,zLc]) | (refine Ze (v:=?_) (later_moves) rfl rfl (fun _ _ _ h=>h) ?_ ?_;rotate_left;(· (intro w' hR;(first | have hcells:=Zd ((later_moves).trans _ _ _ hacc hR) | skip);go_simp;try with_reducible rfl));simp only [Act.put,zLa,zLb,zLc]))
   refine ZX (later_moves) rfl rfl rfl (fun _=>by go_simp <;> rfl) ((HB.out _ (Zl _ _ _ _ hacc hrw)).mono ?_)
   rintro e w8 ⟨rfl,rfl⟩
   refine ⟨_,rfl,later_moves.refl _,?_⟩
   replace hacc:=(later_moves).trans _ _ _ hacc (later_moves.refl _)
   simp only [Act.put,zLa,zLb,zLc]
   cases bb
   ·have HF:=Lib.hid (HFAIL.out HGG.out)
    repeat (first | (refine Zh (later_moves) rfl rfl (fun _ _ _ h=>h) ?_;simp only [Act.put,zLa,zLb,zLc]) | (refine Ze (v:=?_) (later_moves) rfl rfl (fun _ _ _ h=>h) ?_ ?_;rotate_left;(· (intro w' hR;(first | have hcells:=Zd ((later_moves).trans _ _ _ hacc hR) | skip);go_simp;try with_reducible rfl));simp only [Act.put,zLa,zLb,zLc]))
    refine Zt ?_
    go_wp2
    go_ret
    exact ⟨by rw [HF.out];rfl,Za (Za hb0 hbr.drew) hacc⟩
   ·repeat (first | (refine Zh (later_moves) rfl rfl (fun _ _ _ h=>h) ?_;simp only [Act.put,zLa,zLb,zLc]) | (refine Ze (v:=?_) (later_moves) rfl rfl (fun _ _ _ h=>h) ?_ ?_;rotate_left;(· (intro w' hR;(first | have hcells:=Zd ((later_moves).trans _ _ _ hacc hR) | skip);go_simp;try with_reducible rfl));simp only [Act.put,zLa,zLb,zLc]))
    refine Zt ?_
    go_wp2
    go_roundw
    case rel=>exact ⟨k+1,by omega,by go_num,Za hbr.drew hacc,HSTEP.out HGG.out⟩
    case measure=>simp [intOf];omega
  ·have HT:=Lib.hid (Kc HPS.out.1 fun i h1 h2=>HG.out i h1 h2 (by omega))
   go_wp2
   go_ret
   exact ⟨by rw [HT.out];rfl,Za hb0 hbr⟩
theorem ze:Tryz.prog.cellsOf 32=11:=by kernel_rfl
theorem zJ:Tryz.prog.cellsOf 35=7:=by kernel_rfl
theorem KV {w:World} {cs:List Value} (h:Fits Tryz.prog w 33 cs):∃ l,RSl 1 RWd w cs l :=
 GG 1 (R:=RWd) Tryz.underlying33 Xk (fun _ _ hf=>VS Tryz.underlying28 Tryz.underlying22 Yw hf) h
theorem RWd.slc {w:World} {v:Value} {l:List Nat} (h:RWd w [v] l):slc v:=by
 obtain ⟨A,n,c,e,-⟩:=h
 simp at e
 exact ⟨A,n,c,e⟩
theorem jT {w:World} {cs:List Value} (hl:cs.length=7) (h:Fits Tryz.prog w 35 cs):∃ P S,cs=(Y3 P S).toList∧Js w P S:=by
 match cs,hl with
 | [x0,x1,x2,x3,x4,x5,x6],_ =>
  obtain ⟨a,ha,hal⟩:=Uq Tryz.underlying22 (ZN (i:=0) Tryz.underlying35 rfl rfl Yw h)
  obtain ⟨l1,h1⟩:=VS Tryz.underlying28 Tryz.underlying22 Yw (ZN (i:=1) Tryz.underlying35 rfl rfl Xk h)
  obtain ⟨l2,h2⟩:=VS Tryz.underlying28 Tryz.underlying22 Yw (ZN (i:=2) Tryz.underlying35 rfl rfl Xk h)
  obtain ⟨l3,h3⟩:=VS Tryz.underlying28 Tryz.underlying22 Yw (ZN (i:=3) Tryz.underlying35 rfl rfl Xk h)
  obtain ⟨l4,h4⟩:=KV (ZN (i:=4) Tryz.underlying35 rfl rfl Jv h)
  obtain ⟨l5,h5⟩:=VS Tryz.underlying28 Tryz.underlying22 Yw (ZN (i:=5) Tryz.underlying35 rfl rfl Xk h)
  obtain ⟨l6,h6⟩:=KV (ZN (i:=6) Tryz.underlying35 rfl rfl Jv h)
  simp at ha h1 h2 h3 h4 h5 h6
  subst ha
  obtain ⟨A1,n1,c1,rfl⟩:=RWd.slc h1
  obtain ⟨A2,n2,c2,rfl⟩:=RWd.slc h2
  obtain ⟨A3,n3,c3,rfl⟩:=RWd.slc h3
  obtain ⟨A4,n4,c4,rfl⟩:=RSl.slc h4
  obtain ⟨A5,n5,c5,rfl⟩:=RWd.slc h5
  obtain ⟨A6,n6,c6,rfl⟩:=RSl.slc h6
  exact ⟨⟨a,l1,l2,l3,l4,l5,l6⟩,⟨A1,n1,c1,A2,n2,c2,A3,n3,c3,A4,n4,c4,A5,n5,c5,A6,n6,c6⟩,rfl,hal,h1,h2,h3,h4,h5,h6⟩
set_option maxRecDepth 100000 in
set_option maxHeartbeats 1000000 in
theorem zx (A B:Option Addr) (n c m d:Nat) (l r:List Nat) (w:World) (hl:RWd w [.slice A n c] l) (hr:RWd w [.slice B m d] r) :
  Calls Tryz.prog 90 #[.slice A n c, .slice B m d] w fun e w'=>e= .returned (.bool (decide (l=r)))∧∃ k,w'=w.drewN k:=by
 obtain ⟨rfl,h1,h2,-,hrd⟩:=J3 hl
 obtain ⟨rfl,h3,h4,-,hrr⟩:=J3 hr
 have gm:=Vo h1 h2
 have gr:=Vo h3 h4
 clear hl hr h1 h2 h3 h4
 by_cases z:l.length=r.length
 rotate_left
 ·have d1:((l.length:Int) != (r.length:Int))=true:=by rw [bne_iff_ne];omega
  have HZ:=Lib.hid (show decide (l=r)=false from decide_eq_false fun e=>z (by rw [e]))
  clear z hrd hrr
  go_enter Tryz.func90,Tryz.ntmps90
  go_wp2
  go_ret
  exact ⟨by rw [HZ.out];rfl,0,rfl⟩
 have d1:((l.length:Int) != (r.length:Int))=false:=by rw [bne_eq_false_iff_eq];omega
 have HE:=Lib.hid z
 clear z
 go_enter Tryz.func90,Tryz.ntmps90
 go_wp2_with fail
 go_loopw [5] (fun i wr=>∃ j kk:Nat,j≤l.length∧i= .int .i64 (j:Int)∧wr=w.drewN kk∧Hid (∀ k<j,l.getD k 0=r.getD k 0)) (fun i _=>l.length-(intOf i).toNat)
 case atStart=>exact ⟨0,0,Nat.zero_le _,rfl,rfl,fun k hk=>by omega⟩
 case round =>
  obtain ⟨j,kk,hj,rfl,rfl,HB⟩:=hrel
  by_cases hlt:j<l.length
  ·have hlt2:j<r.length:=by rw [←HE.out];exact hlt
   obtain ⟨b,q,rfl,hbl,hc⟩:=J7 hrd hlt
   obtain ⟨b',q',rfl,hbl',hc'⟩:=J7 hrr hlt2
   have HL:=Lib.hid hlt
   have HL2:=Lib.hid hlt2
   have g1:(0:Int)≤(j:Int):=by omega
   have g2:(j:Int)<(l.length:Int):=by omega
   have g3:(j:Int)<(r.length:Int):=by omega
   revert hc hc'
   generalize hy:l.getD j 0=y
   generalize hz:r.getD j 0=z
   intro hc hc'
   have HY:=Lib.hid hy
   have HZ:=Lib.hid hz
   clear hy hz hrd hrr
   by_cases e:y=z
   ·have d2:((y:Int) != (z:Int))=false:=by rw [bne_eq_false_iff_eq];omega
    have HYZ:=Lib.hid e
    clear e
    go_wp2_with fail
    go_quiet (fail)
    go_wp2
    go_roundw
    case rel =>
     refine ⟨j+1,_,by omega,by go_num,rfl,fun k hk=>?_⟩
     rcases Nat.lt_or_ge k j with h5 | h5
     ·exact HB.out k h5
     ·have e:k=j:=by omega
      rw [e,HY.out,HZ.out,HYZ.out]
    case measure=>simp [intOf];omega
   ·have d2:((y:Int) != (z:Int))=true:=by rw [bne_iff_ne];omega
    have HF:=Lib.hid (show decide (l=r)=false from decide_eq_false fun h=>e (by rw [←HY.out,←HZ.out,h]))
    clear e
    go_wp2_with fail
    go_quiet (fail)
    go_wp2
    go_ret
    exact ⟨by rw [HF.out];rfl,_,World.drewN_drewN ..⟩
  ·have e:j=l.length:=by omega
   have HF:=Lib.hid (show decide (l=r)=true from decide_eq_true (List.ext_getElem HE.out fun i h1 h2=>by
    have:=HB.out i (by omega)
    simpa [List.getD_eq_getElem?_getD,List.getElem?_eq_getElem h1,List.getElem?_eq_getElem h2] using this))
   clear hrd hrr
   go_wp2
   go_ret
   exact ⟨by rw [HF.out];rfl,_,rfl⟩
end Go.Proofs.YtdhhdplholkmdaaGreat
