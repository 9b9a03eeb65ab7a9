/- A part of the proof. No condition. -/
import Derived.Test.YtakjnmojigechaaGreatProg
import Derived.Test.YtakjnmojigechaaGreatJB4
import Derived.Test.YtakjnmojigechaaGreatJB5
import Derived.Test.YtakjnmojigechaaGreatJB6
import Derived.StillTailTactics

namespace Go.Proofs.YtakjnmojigechaaGreat
open Go.RowKit
def slc (v:Value):Prop:=∃ A n c,v= .slice A n c
theorem RSl.slc {α:Type} {R:World→List Value→α→Prop} {sz:Nat} {w:World} {v:Value} {l:List α} (h:RSl sz R w [v] l):slc v:=by
 obtain ⟨A,n,c,e,-⟩:=h
 simp at e
 exact ⟨A,n,c,e⟩
def Yr (p:Nat) (pub vars:Int) (rows:Value):Value:=.agg #[.int .u64 (p:Int), .int .i64 pub, .int .i64 vars,rows]
def Un (p:Nat) (n:Int) (r:Ya):Bool:=V8 p n r.a&&V8 p n r.b&&V8 p n r.c
theorem KQ {w w1:World} {t1 t2:TypeId} {cs1 cs2:Array Value} (hb:Below ((w.alloc (.cells cs1 t1)).alloc (.cells cs2 t2)).heap.size ((w.alloc (.cells cs1 t1)).alloc (.cells cs2 t2)) w1) :
  Blk w1 w.heap.size t1 cs1∧Blk w1 (w.heap.size+1) t2 cs2∧Below w.heap.size w w1:=by
 refine ⟨((Blk.new w t1 cs1).alloc _).below hb (by simp;omega),?_,Za (((Below.refl _ w).alloc (Nat.le_refl _) _).alloc (by simp) _) hb⟩
 have:=(Blk.new (w.alloc (.cells cs1 t1)) t2 cs2).below hb (by simp)
 simpa using this
set_option maxRecDepth 100000 in
set_option maxHeartbeats 1000000 in
theorem zCc (p:Nat) (pub vars:Int) (rows:Value) (r:Ya) (x y z:Value) (w:World) (hx:RLin w [x] r.a) (hy:RLin w [y] r.b) (hz:RLin w [z] r.c) (hp:p<18446744073709551616) :
  Calls Tryz.prog 137 #[Yr p pub vars rows, .agg #[x,y,z]] w fun e w'=>e= .returned (.bool (Un p vars r))∧Below w.heap.size w w':=by
 obtain ⟨A1,n1,c1,rfl⟩:=RSl.slc hx
 obtain ⟨A2,n2,c2,rfl⟩:=RSl.slc hy
 obtain ⟨A3,n3,c3,rfl⟩:=RSl.slc hz
 unfold Yr
 cases b1:V8 p vars r.a
 ·have E:=Lib.hid (show Un p vars r=false by simp [Un,b1])
  have B1:=Lib.hid b1
  clear b1
  go_enter Tryz.func137,Tryz.ntmps137
  go_wp2_with (first | (go_at_call 157;refine (V4 p vars _ _ _ r.a _ (Yu _ _ _ _ (((Below.refl _ w).alloc (Nat.le_refl _) _).alloc (by simp) _) hx) hp).mono ?_;rintro e w1 ⟨rfl,hb⟩;rw [B1.out];obtain ⟨K1,K2,hb1⟩:=KQ hb;have t0:w1.cell? ⟨w.heap.size,0,none⟩=some (.int .u64 (p:Int)):=K1.cell 0;have t2:w1.cell? ⟨w.heap.size,2,none⟩=some (.int .i64 vars):=K1.cell 2;have y1:w1.cell? ⟨w.heap.size+1,1,none⟩=some (.slice A2 n2 c2):=K2.cell 1;have y2:w1.cell? ⟨w.heap.size+1,2,none⟩=some (.slice A3 n3 c3):=K2.cell 2;clear hb))
  go_ret
  exact ⟨by rw [E.out];rfl,hb1⟩
 have B1:=Lib.hid b1
 cases b2:V8 p vars r.b
 ·have E:=Lib.hid (show Un p vars r=false by simp [Un,b1,b2])
  have B2:=Lib.hid b2
  clear b1 b2
  go_enter Tryz.func137,Tryz.ntmps137
  go_wp2_with (first | (go_at_call 157;refine (V4 p vars _ _ _ r.b _ (Yu _ _ _ _ hb1 hy) hp).mono ?_;rintro e w2 ⟨rfl,hb2⟩;rw [B2.out];clear t0 t2 y1 y2;have t0:w2.cell? ⟨w.heap.size,0,none⟩=some (.int .u64 (p:Int)):=(K1.below hb2 K1.lt).cell 0;have t2:w2.cell? ⟨w.heap.size,2,none⟩=some (.int .i64 vars):=(K1.below hb2 K1.lt).cell 2;have y2:w2.cell? ⟨w.heap.size+1,2,none⟩=some (.slice A3 n3 c3):=(K2.below hb2 K2.lt).cell 2) | (go_at_call 157;refine (V4 p vars _ _ _ r.a _ (Yu _ _ _ _ (((Below.refl _ w).alloc (Nat.le_refl _) _).alloc (by simp) _) hx) hp).mono ?_;rintro e w1 ⟨rfl,hb⟩;rw [B1.out];obtain ⟨K1,K2,hb1⟩:=KQ hb;have t0:w1.cell? ⟨w.heap.size,0,none⟩=some (.int .u64 (p:Int)):=K1.cell 0;have t2:w1.cell? ⟨w.heap.size,2,none⟩=some (.int .i64 vars):=K1.cell 2;have y1:w1.cell? ⟨w.heap.size+1,1,none⟩=some (.slice A2 n2 c2):=K2.cell 1;have y2:w1.cell? ⟨w.heap.size+1,2,none⟩=some (.slice A3 n3 c3):=K2.cell 2;clear hb))
  go_ret
  exact ⟨by rw [E.out];rfl,Za hb1 hb2⟩
 have B2:=Lib.hid b2
 have E:=Lib.hid (show Un p vars r=V8 p vars r.c by simp [Un,b1,b2])
 clear b1 b2
 go_enter Tryz.func137,Tryz.ntmps137
 go_wp2_with (first | (go_at_call 157;refine (V4 p vars _ _ _ r.c _ (Yu _ _ _ _ (Za hb1 hb2) hz) hp).mono ?_;rintro e w3 ⟨rfl,hb3⟩) | (go_at_call 157;refine (V4 p vars _ _ _ r.b _ (Yu _ _ _ _ hb1 hy) hp).mono ?_;rintro e w2 ⟨rfl,hb2⟩;rw [B2.out];clear t0 t2 y1 y2;have t0:w2.cell? ⟨w.heap.size,0,none⟩=some (.int .u64 (p:Int)):=(K1.below hb2 K1.lt).cell 0;have t2:w2.cell? ⟨w.heap.size,2,none⟩=some (.int .i64 vars):=(K1.below hb2 K1.lt).cell 2;have y2:w2.cell? ⟨w.heap.size+1,2,none⟩=some (.slice A3 n3 c3):=(K2.below hb2 K2.lt).cell 2) | (go_at_call 157;refine (V4 p vars _ _ _ r.a _ (Yu _ _ _ _ (((Below.refl _ w).alloc (Nat.le_refl _) _).alloc (by simp) _) hx) hp).mono ?_;rintro e w1 ⟨rfl,hb⟩;rw [B1.out];obtain ⟨K1,K2,hb1⟩:=KQ hb;have t0:w1.cell? ⟨w.heap.size,0,none⟩=some (.int .u64 (p:Int)):=K1.cell 0;have t2:w1.cell? ⟨w.heap.size,2,none⟩=some (.int .i64 vars):=K1.cell 2;have y1:w1.cell? ⟨w.heap.size+1,1,none⟩=some (.slice A2 n2 c2):=K2.cell 1;have y2:w1.cell? ⟨w.heap.size+1,2,none⟩=some (.slice A3 n3 c3):=K2.cell 2;clear hb))
 go_ret
 exact ⟨by rw [E.out];rfl,Za (Za hb1 hb2) hb3⟩
theorem Ur {w w':World} {p:Addr} {v:Value} (hR:ZK w w') (h:w.cell? p=some v):w'.cell? p=some v:=(Below.cell hR (World.block_lt_of_cell? _ _ h)).trans h
def YC (p:Nat) (pub vars:Int) (rows:List Ya):Bool :=
 okP p&&!decide (pub<0)&&!decide (vars≤pub)&&!decide (65536<vars)&&!decide ((16384:Int)<(rows.length:Int))&&rows.all (Un p vars)
set_option linter.unusedSimpArgs false in
set_option maxRecDepth 100000 in
set_option maxHeartbeats 4000000 in
theorem Xk (p:Nat) (pub vars:Int) (A:Option Addr) (n c:Nat) (rows:List Ya) (w:World) (hr:RSl 3 Xb w [.slice A n c] rows) (hp:p<18446744073709551616) :
  Calls Tryz.prog 91 #[Yr p pub vars (.slice A n c)] w fun e w'=>e= .returned (.bool (YC p pub vars rows))∧Below w.heap.size w w':=by
 obtain ⟨A',n',c',he,hlen,hnc,hmx,hrd⟩:=hr
 simp at he
 obtain ⟨rfl,rfl,rfl⟩:=he
 subst hlen
 unfold Yr
 cases b1:okP p
 ·have E:=Lib.hid (show YC p pub vars rows=false by simp [YC,b1])
  have B1:=Lib.hid b1
  clear b1
  go_enter Tryz.func91,Tryz.ntmps91
  go_wp2_with (go_at_call 63;refine (Yt p _ hp).mono ?_;rintro e w1 ⟨rfl,hb⟩;rw [B1.out];have hB:=(Blk.new w _ _).below hb (by simp);have hb1:Below w.heap.size w w1:=Za ((Below.refl _ w).alloc (Nat.le_refl _) _) hb;have t1:w1.cell? ⟨w.heap.size,1,none⟩=some (.int .i64 pub):=hB.cell 1;have t2:w1.cell? ⟨w.heap.size,2,none⟩=some (.int .i64 vars):=hB.cell 2;have t3:w1.cell? ⟨w.heap.size,3,none⟩=some (.slice A rows.length c):=hB.cell 3;clear hb)
  go_ret
  exact ⟨by rw [E.out];rfl,hb1⟩
 have B1:=Lib.hid b1
 by_cases z1:pub<0
 ·have E:=Lib.hid (show YC p pub vars rows=false by unfold YC;rw [decide_eq_true z1];simp)
  have d1:=decide_eq_true z1
  clear b1
  go_enter Tryz.func91,Tryz.ntmps91
  go_wp2_with (go_at_call 63;refine (Yt p _ hp).mono ?_;rintro e w1 ⟨rfl,hb⟩;rw [B1.out];have hB:=(Blk.new w _ _).below hb (by simp);have hb1:Below w.heap.size w w1:=Za ((Below.refl _ w).alloc (Nat.le_refl _) _) hb;have t1:w1.cell? ⟨w.heap.size,1,none⟩=some (.int .i64 pub):=hB.cell 1;have t2:w1.cell? ⟨w.heap.size,2,none⟩=some (.int .i64 vars):=hB.cell 2;have t3:w1.cell? ⟨w.heap.size,3,none⟩=some (.slice A rows.length c):=hB.cell 3;clear hb)
  go_ret
  exact ⟨by rw [E.out];rfl,hb1⟩
 have d1:=decide_eq_false z1
 by_cases z2:vars≤pub
 ·have E:=Lib.hid (show YC p pub vars rows=false by unfold YC;rw [decide_eq_true z2];simp)
  have d2:=decide_eq_true z2
  clear b1
  go_enter Tryz.func91,Tryz.ntmps91
  go_wp2_with (go_at_call 63;refine (Yt p _ hp).mono ?_;rintro e w1 ⟨rfl,hb⟩;rw [B1.out];have hB:=(Blk.new w _ _).below hb (by simp);have hb1:Below w.heap.size w w1:=Za ((Below.refl _ w).alloc (Nat.le_refl _) _) hb;have t1:w1.cell? ⟨w.heap.size,1,none⟩=some (.int .i64 pub):=hB.cell 1;have t2:w1.cell? ⟨w.heap.size,2,none⟩=some (.int .i64 vars):=hB.cell 2;have t3:w1.cell? ⟨w.heap.size,3,none⟩=some (.slice A rows.length c):=hB.cell 3;clear hb)
  go_ret
  exact ⟨by rw [E.out];rfl,hb1⟩
 have d2:=decide_eq_false z2
 by_cases z3:65536<vars
 ·have E:=Lib.hid (show YC p pub vars rows=false by unfold YC;rw [decide_eq_true z3];simp)
  have d3:=decide_eq_true z3
  clear b1
  go_enter Tryz.func91,Tryz.ntmps91
  go_wp2_with (go_at_call 63;refine (Yt p _ hp).mono ?_;rintro e w1 ⟨rfl,hb⟩;rw [B1.out];have hB:=(Blk.new w _ _).below hb (by simp);have hb1:Below w.heap.size w w1:=Za ((Below.refl _ w).alloc (Nat.le_refl _) _) hb;have t1:w1.cell? ⟨w.heap.size,1,none⟩=some (.int .i64 pub):=hB.cell 1;have t2:w1.cell? ⟨w.heap.size,2,none⟩=some (.int .i64 vars):=hB.cell 2;have t3:w1.cell? ⟨w.heap.size,3,none⟩=some (.slice A rows.length c):=hB.cell 3;clear hb)
  go_ret
  exact ⟨by rw [E.out];rfl,hb1⟩
 have d3:=decide_eq_false z3
 by_cases z4:(16384:Int)<(rows.length:Int)
 ·have E:=Lib.hid (show YC p pub vars rows=false by unfold YC;rw [decide_eq_true z4];simp)
  have d4:=decide_eq_true z4
  clear b1
  go_enter Tryz.func91,Tryz.ntmps91
  go_wp2_with (go_at_call 63;refine (Yt p _ hp).mono ?_;rintro e w1 ⟨rfl,hb⟩;rw [B1.out];have hB:=(Blk.new w _ _).below hb (by simp);have hb1:Below w.heap.size w w1:=Za ((Below.refl _ w).alloc (Nat.le_refl _) _) hb;have t1:w1.cell? ⟨w.heap.size,1,none⟩=some (.int .i64 pub):=hB.cell 1;have t2:w1.cell? ⟨w.heap.size,2,none⟩=some (.int .i64 vars):=hB.cell 2;have t3:w1.cell? ⟨w.heap.size,3,none⟩=some (.slice A rows.length c):=hB.cell 3;clear hb)
  go_ret
  exact ⟨by rw [E.out];rfl,hb1⟩
 have d4:=decide_eq_false z4
 have E:=Lib.hid (show YC p pub vars rows=rows.all (Un p vars) by unfold YC;rw [b1,d1,d2,d3,d4];simp)
 clear b1
 go_enter Tryz.func91,Tryz.ntmps91
 go_wp2_with (go_at_call 63;refine (Yt p _ hp).mono ?_;rintro e w1 ⟨rfl,hb⟩;rw [B1.out];have hB:=(Blk.new w _ _).below hb (by simp);have hb1:Below w.heap.size w w1:=Za ((Below.refl _ w).alloc (Nat.le_refl _) _) hb;have t1:w1.cell? ⟨w.heap.size,1,none⟩=some (.int .i64 pub):=hB.cell 1;have t2:w1.cell? ⟨w.heap.size,2,none⟩=some (.int .i64 vars):=hB.cell 2;have t3:w1.cell? ⟨w.heap.size,3,none⟩=some (.slice A rows.length c):=hB.cell 3;clear hb)
 go_loopw [3] (fun i wr=>∃ j:Nat,j≤rows.length∧i= .int .i64 (j:Int)∧Below w1.heap.size w1 wr∧Hid (∀ k<j,∀ h:k<rows.length,Un p vars rows[k]=true))
  (fun i _=>rows.length-(intOf i).toNat)
 case atStart=>exact ⟨0,Nat.zero_le _,rfl,Below.refl _ _,fun k hk=>by omega⟩
 case round =>
  obtain ⟨j,hj,rfl,hbr,HB⟩:=hrel
  have s3:wr.cell? ⟨w.heap.size,3,none⟩=some (.slice A rows.length c):=(hB.below hbr hB.lt).cell 3
  by_cases hlt:j<rows.length
  ·have hBr:Blk wr.drew w.heap.size 25 _:=hB.below hbr.drew hB.lt
   have hbw:Below w.heap.size w wr.drew:=Za hb1 hbr.drew
   obtain ⟨b,q,rfl⟩:=hrd.base (by omega) (by omega)
   obtain ⟨cs,-,hc,x,y,z,rfl,hx1,hy1,hz1⟩:=(hrd.below ZB hbw).get hlt
   have h0:wr.drew.cell? ⟨b,q+j*3,none⟩=some x:=hc 0 (by omega)
   have h1:wr.drew.cell? ⟨b,q+j*3+1,none⟩=some y:=hc 1 (by omega)
   have h2:wr.drew.cell? ⟨b,q+j*3+2,none⟩=some z:=hc 2 (by omega)
   have HL:=Lib.hid hlt
   have i1:(0:Int)≤(j:Int):=by omega
   have i2:(j:Int)<(rows.length:Int):=by omega
   clear hc
   cases bo:Un p vars rows[j]
   ·have HO:=Lib.hid bo
    clear bo
    go_wp2_with fail
    refine JR ZK (by kernel_rfl) ?_
    refine YI 0 (v:=Yr p pub vars (.slice (some ⟨b,q,none⟩) rows.length c)) later_moves (by decide) (by kernel_rfl) (by kernel_rfl) (by kernel_rfl) (fun _ _ _ h=>h) (Vd (by rfl) ?_) ?_;· ( intro w' hR;simp only [List.getElem_cons_succ,List.getElem_cons_zero];unfold Yr;have q0:=(hBr.below hR hBr.lt).cell 0;have q1:=(hBr.below hR hBr.lt).cell 1;have q2:=(hBr.below hR hBr.lt).cell 2;have q3:=(hBr.below hR hBr.lt).cell 3;simp at q0 q1 q2 q3;go_simp )
    simp only [Act.put,List.getElem_cons_succ,List.getElem_cons_zero,List.setIfInBounds_toArray,List.set_cons_zero,List.set_cons_succ]
    refine YI 1 (v:=?_) later_moves (by decide) (by kernel_rfl) (by kernel_rfl) (by kernel_rfl) (fun _ _ _ h=>h) (Vd (by rfl) ?_) ?_;rotate_left;· ( intro w' hR;simp only [List.getElem_cons_succ,List.getElem_cons_zero];go_simp;try with_reducible rfl )
    simp only [Act.put,List.getElem_cons_succ,List.getElem_cons_zero,List.setIfInBounds_toArray,List.set_cons_zero,List.set_cons_succ]
    refine YI 2 (v:=.slice (some ⟨b,q,none⟩) rows.length c) later_moves (by decide) (by kernel_rfl) (by kernel_rfl) (by kernel_rfl) (fun _ _ _ h=>h) (Vd (by rfl) ?_) ?_;· ( intro w' hR;simp only [List.getElem_cons_succ,List.getElem_cons_zero];have q3:=(hBr.below hR hBr.lt).cell 3;simp at q3;go_simp )
    simp only [Act.put,List.getElem_cons_succ,List.getElem_cons_zero,List.setIfInBounds_toArray,List.set_cons_zero,List.set_cons_succ]
    refine YI 3 (v:=?_) later_moves (by decide) (by kernel_rfl) (by kernel_rfl) (by kernel_rfl) (fun _ _ _ h=>h) (Vd (by rfl) ?_) ?_;rotate_left;· ( intro w' hR;simp only [List.getElem_cons_succ,List.getElem_cons_zero];go_simp;try with_reducible rfl )
    simp only [Act.put,List.getElem_cons_succ,List.getElem_cons_zero,List.setIfInBounds_toArray,List.set_cons_zero,List.set_cons_succ]
    refine YI 4 (v:=?_) later_moves (by decide) (by kernel_rfl) (by kernel_rfl) (by kernel_rfl) (fun _ _ _ h=>h) (Vd (by rfl) ?_) ?_;rotate_left;· ( intro w' hR;simp only [List.getElem_cons_succ,List.getElem_cons_zero];go_simp;try with_reducible rfl )
    simp only [Act.put,List.getElem_cons_succ,List.getElem_cons_zero,List.setIfInBounds_toArray,List.set_cons_zero,List.set_cons_succ]
    refine YI 5 (v:=.agg #[x,y,z]) later_moves (by decide) (by kernel_rfl) (by kernel_rfl) (by kernel_rfl) (fun _ _ _ h=>h) (Vd (by rfl) ?_) ?_;· ( intro w' hR;simp only [List.getElem_cons_succ,List.getElem_cons_zero];have r0:=Ur hR h0;have r1:=Ur hR h1;have r2:=Ur hR h2;go_simp )
    simp only [Act.put,List.getElem_cons_succ,List.getElem_cons_zero,List.setIfInBounds_toArray,List.set_cons_zero,List.set_cons_succ]
    refine xx 6 later_moves (by decide) (by kernel_rfl) (by rfl) ((zCc p pub vars (.slice (some ⟨b,q,none⟩) rows.length c) rows[j] x y z _ hx1 hy1 hz1 hp).mono ?_) (fun _=>by simp only [List.getElem_cons_succ,List.getElem_cons_zero];go_simp)
    rintro e w3 ⟨rfl,hb3⟩
    rw [HO.out]
    refine ⟨_,rfl,hb3,?_⟩
    simp only [Act.put,List.getElem_cons_succ,List.getElem_cons_zero,List.setIfInBounds_toArray,List.set_cons_zero,List.set_cons_succ]
    refine YI 7 (v:=?_) later_moves (by decide) (by kernel_rfl) (by kernel_rfl) (by kernel_rfl) (fun _ _ _ h=>h) (Vd (by rfl) ?_) ?_;rotate_left;· ( intro w' hR;simp only [List.getElem_cons_succ,List.getElem_cons_zero];go_simp;try with_reducible rfl )
    simp only [Act.put,List.getElem_cons_succ,List.getElem_cons_zero,List.setIfInBounds_toArray,List.set_cons_zero,List.set_cons_succ]
    refine yw (by kernel_rfl) ?_
    go_wp2
    go_ret
    refine ⟨by rw [E.out,List.all_eq_false.2 ⟨rows[j],List.getElem_mem HL.out,fun h=>Bool.noConfusion (HO.out.symm.trans h)⟩];rfl,Za hbw hb3⟩
   ·have HO:=Lib.hid bo
    clear bo
    go_wp2_with fail
    refine JR ZK (by kernel_rfl) ?_
    refine YI 0 (v:=Yr p pub vars (.slice (some ⟨b,q,none⟩) rows.length c)) later_moves (by decide) (by kernel_rfl) (by kernel_rfl) (by kernel_rfl) (fun _ _ _ h=>h) (Vd (by rfl) ?_) ?_;· ( intro w' hR;simp only [List.getElem_cons_succ,List.getElem_cons_zero];unfold Yr;have q0:=(hBr.below hR hBr.lt).cell 0;have q1:=(hBr.below hR hBr.lt).cell 1;have q2:=(hBr.below hR hBr.lt).cell 2;have q3:=(hBr.below hR hBr.lt).cell 3;simp at q0 q1 q2 q3;go_simp )
    simp only [Act.put,List.getElem_cons_succ,List.getElem_cons_zero,List.setIfInBounds_toArray,List.set_cons_zero,List.set_cons_succ]
    refine YI 1 (v:=?_) later_moves (by decide) (by kernel_rfl) (by kernel_rfl) (by kernel_rfl) (fun _ _ _ h=>h) (Vd (by rfl) ?_) ?_;rotate_left;· ( intro w' hR;simp only [List.getElem_cons_succ,List.getElem_cons_zero];go_simp;try with_reducible rfl )
    simp only [Act.put,List.getElem_cons_succ,List.getElem_cons_zero,List.setIfInBounds_toArray,List.set_cons_zero,List.set_cons_succ]
    refine YI 2 (v:=.slice (some ⟨b,q,none⟩) rows.length c) later_moves (by decide) (by kernel_rfl) (by kernel_rfl) (by kernel_rfl) (fun _ _ _ h=>h) (Vd (by rfl) ?_) ?_;· ( intro w' hR;simp only [List.getElem_cons_succ,List.getElem_cons_zero];have q3:=(hBr.below hR hBr.lt).cell 3;simp at q3;go_simp )
    simp only [Act.put,List.getElem_cons_succ,List.getElem_cons_zero,List.setIfInBounds_toArray,List.set_cons_zero,List.set_cons_succ]
    refine YI 3 (v:=?_) later_moves (by decide) (by kernel_rfl) (by kernel_rfl) (by kernel_rfl) (fun _ _ _ h=>h) (Vd (by rfl) ?_) ?_;rotate_left;· ( intro w' hR;simp only [List.getElem_cons_succ,List.getElem_cons_zero];go_simp;try with_reducible rfl )
    simp only [Act.put,List.getElem_cons_succ,List.getElem_cons_zero,List.setIfInBounds_toArray,List.set_cons_zero,List.set_cons_succ]
    refine YI 4 (v:=?_) later_moves (by decide) (by kernel_rfl) (by kernel_rfl) (by kernel_rfl) (fun _ _ _ h=>h) (Vd (by rfl) ?_) ?_;rotate_left;· ( intro w' hR;simp only [List.getElem_cons_succ,List.getElem_cons_zero];go_simp;try with_reducible rfl )
    simp only [Act.put,List.getElem_cons_succ,List.getElem_cons_zero,List.setIfInBounds_toArray,List.set_cons_zero,List.set_cons_succ]
    refine YI 5 (v:=.agg #[x,y,z]) later_moves (by decide) (by kernel_rfl) (by kernel_rfl) (by kernel_rfl) (fun _ _ _ h=>h) (Vd (by rfl) ?_) ?_;· ( intro w' hR;simp only [List.getElem_cons_succ,List.getElem_cons_zero];have r0:=Ur hR h0;have r1:=Ur hR h1;have r2:=Ur hR h2;go_simp )
    simp only [Act.put,List.getElem_cons_succ,List.getElem_cons_zero,List.setIfInBounds_toArray,List.set_cons_zero,List.set_cons_succ]
    refine xx 6 later_moves (by decide) (by kernel_rfl) (by rfl) ((zCc p pub vars (.slice (some ⟨b,q,none⟩) rows.length c) rows[j] x y z _ hx1 hy1 hz1 hp).mono ?_) (fun _=>by simp only [List.getElem_cons_succ,List.getElem_cons_zero];go_simp)
    rintro e w3 ⟨rfl,hb3⟩
    rw [HO.out]
    refine ⟨_,rfl,hb3,?_⟩
    simp only [Act.put,List.getElem_cons_succ,List.getElem_cons_zero,List.setIfInBounds_toArray,List.set_cons_zero,List.set_cons_succ]
    refine YI 7 (v:=?_) later_moves (by decide) (by kernel_rfl) (by kernel_rfl) (by kernel_rfl) (fun _ _ _ h=>h) (Vd (by rfl) ?_) ?_;rotate_left;· ( intro w' hR;simp only [List.getElem_cons_succ,List.getElem_cons_zero];go_simp;try with_reducible rfl )
    simp only [Act.put,List.getElem_cons_succ,List.getElem_cons_zero,List.setIfInBounds_toArray,List.set_cons_zero,List.set_cons_succ]
    refine yw (by kernel_rfl) ?_
    go_wp2
    go_roundw
    case rel =>
     refine ⟨j+1,by omega,by go_num,Za hbr.drew hb3,fun k hk h=>?_⟩
     rcases Nat.lt_or_ge k j with h5 | h5
     ·exact HB.out k h5 h
     ·have e:k=j:=by omega
      subst e
      exact HO.out
    case measure=>simp [intOf];omega
  ·go_wp2
   go_ret
   have e:j=rows.length:=by omega
   refine ⟨by rw [E.out,List.all_eq_true.2 (fun r hr=>by obtain ⟨k,hk,rfl⟩:=List.getElem_of_mem hr;exact HB.out k (by omega) hk)];rfl,Za hb1 hbr⟩
def JL (p:Nat) (vars:Int) (l:List Nat):Bool:=!((l.length:Int) != vars)&&!((l.length:Int) == 0)&&!(((l.getD 0 0:Nat):Int) != 1)&&l.all fun x=>decide (x<p)
theorem RWd.at_ {w:World} {A:Option Addr} {l:List Nat} (h:Rd w 1 A l.length (U64 l)) {i:Nat} (hi:i<l.length):∃ ad,A=some ad∧w.cell? (ad.add i)=some (.int .u64 ((l.getD i 0:Nat):Int)):=by
 obtain ⟨ad,u,rfl,hu,hc⟩:=h.at_ hi
 rw [KK hi] at hu
 injection hu with hu
 subst hu
 exact ⟨ad,rfl,by simpa [hi] using hc⟩
set_option maxRecDepth 100000 in
set_option maxHeartbeats 4000000 in
theorem zBj (p:Nat) (pub vars:Int) (T:Value) (A:Option Addr) (n c:Nat) (l:List Nat) (w:World) (hl:RWd w [.slice A n c] l) (_hp:p<18446744073709551616) :
  Calls Tryz.prog 92 #[Yr p pub vars T, .slice A n c] w fun e w'=>e= .returned (.bool (JL p vars l))∧Below w.heap.size w w':=by
 obtain ⟨A',n',c',he,hnc,hmx,hrd,hlt⟩:=hl
 simp at he
 obtain ⟨rfl,rfl,rfl⟩:=he
 have hlen:=hrd.len1
 rw [US] at hlen
 subst hlen
 unfold Yr
 have hb0:∀ o,Below w.heap.size w (w.alloc o):=fun o=>(Below.refl _ w).alloc (Nat.le_refl _) _
 by_cases z1:(l.length:Int)=vars
 ·subst z1
  rcases Nat.eq_zero_or_pos l.length with z2 | z2
  ·have E:=Lib.hid (show JL p (l.length:Int) l=false by simp [JL,z2])
   rw [z2]
   rw [z2] at E
   go_enter Tryz.func92,Tryz.ntmps92
   go_wp2_with fail
   go_ret
   exact ⟨by rw [E.out];rfl,hb0 _⟩
  ·obtain ⟨ad,rfl,hc⟩:=RWd.at_ (hrd.below (hb0 (.cells #[.int .u64 (p:Int), .int .i64 pub, .int .i64 (l.length:Int),T] 25))) z2
   have g0:((l.length:Int) == 0)=false:=by rw [beq_eq_false_iff_ne];omega
   have g1:(0:Int)<(l.length:Int):=by omega
   have gm:(l.length:Int)≤9223372036854775807:=by
    have h3:=hnc
    have h4:=hmx
    simp [maxLen] at h4
    omega
   by_cases z3:l.getD 0 0=1
   ·have hc0:(w.alloc (.cells #[.int .u64 (p:Int), .int .i64 pub, .int .i64 (l.length:Int),T] 25)).cell? ad=some (.int .u64 1):=by
     rw [z3] at hc
     simpa [Addr.add] using hc
    have E:=Lib.hid (show JL p (l.length:Int) l=l.all fun x=>decide (x<p) by unfold JL;rw [z3,g0];simp)
    clear hc z3
    go_enter Tryz.func92,Tryz.ntmps92
    go_wp2_with fail
    go_loopw [5] (fun i wr=>∃ j kk:Nat,j≤l.length∧i= .int .i64 (j:Int)∧wr=(w.alloc (.cells #[.int .u64 (p:Int), .int .i64 pub, .int .i64 (l.length:Int),T] 25)).drewN kk∧Hid (∀ k<j,l.getD k 0<p))
     (fun i _=>l.length-(intOf i).toNat)
    case atStart=>exact ⟨0,0,Nat.zero_le _,rfl,rfl,fun k hk=>by omega⟩
    case round =>
     obtain ⟨j,kk,hj,rfl,rfl,HB⟩:=hrel
     by_cases hjl:j<l.length
     ·obtain ⟨ad',he',hc⟩:=RWd.at_ (hrd.below (hb0 (.cells #[.int .u64 (p:Int), .int .i64 pub, .int .i64 (l.length:Int),T] 25))) hjl
      injection he' with he'
      subst he'
      have g2:(0:Int)≤(j:Int):=by omega
      have g3:(j:Int)<(l.length:Int):=by omega
      have HL:=Lib.hid hjl
      have HY:Hid (l.getD j 0=l.getD j 0):=rfl
      revert hc HY
      generalize hy:l.getD j 0=y
      intro hc _
      have HY:=Lib.hid hy
      clear hy
      by_cases z4:p≤y
      ·have d4:decide ((p:Int)≤(y:Int))=true:=decide_eq_true (by omega)
       have HZ:=Lib.hid z4
       clear hrd z4
       go_wp2_with fail
       go_quiet (fail)
       go_wp2
       go_ret
       have HA:(l.all fun x=>decide (x<p))=false:=by
        refine List.all_eq_false.2 ⟨l[j]'HL.out,List.getElem_mem HL.out,?_⟩
        have h1:=HY.out
        have h2:=HZ.out
        simp [HL.out] at h1
        simp [h1]
        omega
       exact ⟨by rw [E.out,HA];rfl,below_drewN (below_drewN (hb0 _) _) _⟩
      ·have d4:decide ((p:Int)≤(y:Int))=false:=decide_eq_false (by omega)
       have HZ:=Lib.hid z4
       clear hrd z4
       go_wp2_with fail
       go_quiet (fail)
       go_wp2
       go_roundw
       case rel =>
        refine ⟨j+1,_,by omega,by go_num,rfl,fun k hk=>?_⟩
        rcases Nat.lt_or_ge k j with h5 | h5
        ·exact HB.out k h5
        ·have e:k=j:=by omega
         subst e
         have h1:=HY.out
         have h2:=HZ.out
         omega
       case measure=>simp [intOf];omega
     ·go_wp2
      go_ret
      have e:j=l.length:=by omega
      have HA:(l.all fun x=>decide (x<p))=true:=by
       refine List.all_eq_true.2 ?_
       intro x hx
       obtain ⟨k,hk,rfl⟩:=List.getElem_of_mem hx
       have:=HB.out k (by omega)
       simpa [hk] using this
      exact ⟨by rw [E.out,HA];rfl,below_drewN (hb0 _) _⟩
   ·have hc0:(w.alloc (.cells #[.int .u64 (p:Int), .int .i64 pub, .int .i64 (l.length:Int),T] 25)).cell? ad=some (.int .u64 ((l.getD 0 0:Nat):Int)):=by simpa [Addr.add] using hc
    have d3:(((l.getD 0 0:Nat):Int) != 1)=true:=by rw [bne_iff_ne];omega
    have E:=Lib.hid (show JL p (l.length:Int) l=false by unfold JL;rw [d3];simp)
    clear hc z3
    revert hc0 d3
    generalize l.getD 0 0=y
    intro hc0 d3
    go_enter Tryz.func92,Tryz.ntmps92
    go_wp2_with fail
    go_ret
    exact ⟨by rw [E.out];rfl,hb0 _⟩
 ·have d1:((l.length:Int) != vars)=true:=by rw [bne_iff_ne];exact z1
  have E:=Lib.hid (show JL p vars l=false by simp [JL,z1])
  go_enter Tryz.func92,Tryz.ntmps92
  go_wp2_with fail
  go_ret
  exact ⟨by rw [E.out];rfl,hb0 _⟩
theorem KM (n k:Nat) (w:World) (hn:n≤1000000000) (hk:0<k) (hk2:k≤1000000000) :
  Calls Tryz.prog 139 #[.int .i64 (n:Int), .int .i64 (k:Int)] w fun e w'=>e= .returned (.int .i64 (((n+k-1) / k:Nat):Int))∧w'=w:=by
 obtain ⟨m,rfl⟩:∃ m,k=m+1:=⟨k-1,by omega⟩
 have e1:Hid (((n+(m+1)-1) / (m+1):Nat)=(n+m) / (m+1)):=rfl
 go_enter Tryz.func139,Tryz.ntmps139
 go_wp2_with fail
 go_ret
 refine ⟨?_,rfl⟩
 show Ending.returned (.int .i64 (((n:Int)+((m:Int)+1)-1) / ((m:Int)+1)))=_
 rw [show (n:Int)+((m:Int)+1)-1=((n+(m+1)-1:Nat):Int) from by omega]
 rfl
theorem G2 {w:World} {A:Option Addr} {n:Nat} {xs:List Value} (h:Rd w 1 A n xs) (hn:0<n):∃ b q,A=some ⟨b,q,none⟩∧b<w.heap.size∧∀ k,k<n→w.cell? ⟨b,q+k,none⟩=xs[k]?:=by
 obtain ⟨ad,rfl,hc⟩:=h.2 hn
 have hl:=h.len1
 have h0:=hc 0 _ (List.getElem?_eq_getElem (by omega))
 obtain ⟨b,q,rfl⟩:∃ b q,ad=⟨b,q,none⟩:=by
  have hs:=World.cell?_spot h0
  rw [jE] at hs
  obtain ⟨b,q,s⟩:=ad
  simp at hs
  subst hs
  exact ⟨b,q,rfl⟩
 refine ⟨b,q,rfl,World.block_lt_of_cell? _ _ (by rw [jE] at h0;exact h0),fun k hk=>?_⟩
 rw [←Y2,hc k _ (List.getElem?_eq_getElem (by omega)),List.getElem?_eq_getElem (by omega)]
def Uf (p:Nat) (ws:List Nat) (s:Nat) (t:Int × Nat):Nat:=if 0≤t.1∧t.1<(ws.length:Int) then (s+t.2*ws.getD t.1.toNat 0%p)%p else s
def YW (p:Nat) (l:List (Int × Nat)) (ws:List Nat):Nat:=l.foldl (Uf p ws) 0
theorem zO (p:Nat) (l:List (Int × Nat)) (ws:List Nat) (j:Nat) (h:j<l.length):YW p (l.take (j+1)) ws=Uf p ws (YW p (l.take j) ws) (l.getD j (0,0)):=by
 unfold YW
 rw [List.take_succ_eq_append_getElem h,List.foldl_append]
 simp [h]
set_option maxRecDepth 100000 in
set_option maxHeartbeats 4000000 in
theorem xS (p:Nat) (A B:Option Addr) (len c n d:Nat) (l:List (Int × Nat)) (ws:List Nat) (w:World) (hl:RLin w [.slice A len c] l) (hw:RWd w [.slice B n d] ws) (hp:okP p=true) :
  Calls Tryz.prog 94 #[.int .u64 p, .slice A len c, .slice B n d] w fun e w'=>e= .returned (.int .u64 (YW p l ws:Nat))∧Below w.heap.size w w':=by
 obtain ⟨A',n',c',he,hlen,hnc,hmx,hrd⟩:=hl
 simp at he
 obtain ⟨rfl,rfl,rfl⟩:=he
 subst hlen
 obtain ⟨B',m',d',he,hmd,hmy,hrw,hlw⟩:=hw
 simp at he
 obtain ⟨rfl,rfl,rfl⟩:=he
 have hm:ws.length=n:=by have:=hrw.len1;rwa [US] at this
 subst hm
 have g0:(l.length:Int)≤9223372036854775807:=by
  simp [maxLen] at hmx
  omega
 go_enter Tryz.func94,Tryz.ntmps94
 go_wp2_with fail
 go_loopw [7,8] (fun s i wr=>∃ j:Nat,j≤l.length∧i= .int .i64 (j:Int)∧s= .int .u64 (YW p (l.take j) ws:Nat)∧Below w.heap.size w wr)
  (fun _ i _=>l.length-(intOf i).toNat)
 case atStart=>exact ⟨0,Nat.zero_le _,rfl,rfl,Below.refl _ _⟩
 case round =>
  obtain ⟨j,hj,rfl,rfl,hb⟩:=hrel
  by_cases hlt:j<l.length
  ·have HS:=Lib.hid (zO p l ws j hlt)
   revert HS
   generalize YW p (l.take j) ws=s
   intro HS
   obtain ⟨b,q,rfl⟩:=hrd.base (by omega) (by omega)
   have hrd':=hrd.below VO hb
   obtain ⟨c1,c2⟩:=RLin.at_ hrd' hlt
   have hbl:=World.block_lt_of_cell? _ _ c1
   have HL:=Lib.hid hlt
   have g1:(0:Int)≤(j:Int):=by omega
   have g2:(j:Int)<(l.length:Int):=by omega
   have HW:=Lib.hid (fun (k:Nat) (hk:k<ws.length)=>(G2 (hrw.below hb) (by omega)).imp fun b' h=>h.imp fun q' h=>(⟨h.1,h.2.1,(h.2.2 k hk).trans (KK hk)⟩:_∧_∧_=some (Value.int .u64 (ws[k]:Int))))
   revert c1 c2 HS
   generalize hx:(l.getD j (0,0))=t
   obtain ⟨x,y⟩:=t
   clear hx
   simp only
   intro HS c1 c2
   clear hrd hrd' hrw
   by_cases z1:x<0
   ·have d1:decide (0≤x)=false:=decide_eq_false (by omega)
    have HE:=Lib.hid (show YW p (l.take (j+1)) ws=s by rw [HS.out,Uf,if_neg (by simp;omega)])
    go_wp2_with fail
    go_roundw
    case rel=>exact ⟨j+1,by omega,by go_num,by rw [HE.out],hb⟩
    case measure=>simp [intOf];omega
   ·obtain ⟨k,rfl⟩:=Int.eq_ofNat_of_zero_le (show 0≤x by omega)
    by_cases z2:k<ws.length
    ·have d1:decide ((0:Int)≤(k:Int))=true:=decide_eq_true (by omega)
     have d2:decide ((k:Int)<(ws.length:Int))=true:=decide_eq_true (by omega)
     obtain ⟨b',q',rfl,hbl',c3⟩:=HW.out k z2
     have HE:=Lib.hid (show YW p (l.take (j+1)) ws=(s+y*ws[k]%p)%p by rw [HS.out,Uf,if_pos (by simp;omega)];show (s+y*ws.getD ((k:Int)).toNat 0%p)%p=_;rw [Int.toNat_natCast,List.getD_eq_getElem?_getD,List.getElem?_eq_getElem z2,Option.getD_some])
     clear HW HS
     revert c3 HE
     generalize ws[k]=v
     have HM:=Lib.hid (fun w=>XQ p y v w hp)
     revert HM
     generalize y*v%p=m
     intro HM c3 HE
     have i1:(0:Int)≤(k:Int):=by omega
     have i2:(k:Int)<(ws.length:Int):=by omega
     go_wp2_with fail
     refine Zq (ZK) [16,17] [0,1,2,3,4,5,6,7,8,9,10,11,12,13,14,15,16,17,18] (by kernel_rfl) (by kernel_rfl) ?_
     refine U4 (later_moves) ?_
     intro Wc hacc
     repeat (first | (refine Zf (later_moves) rfl rfl (fun _ _ _ h=>h) ?_;simp only [Act.put,zLa,zLb,zLc]) | (refine Ze (v:=?_) (later_moves) rfl rfl (fun _ _ _ h=>h) ?_ ?_;rotate_left;(· (intro w' hR;(first | have hcells:=Zb ((later_moves).trans _ _ _ hacc hR) | skip);go_simp;try with_reducible rfl));simp only [Act.put,zLa,zLb,zLc]))
     refine Zk (later_moves) rfl rfl rfl (fun _=>by go_simp <;> rfl) ((HM.out _).mono ?_)
     rintro e w2 ⟨rfl,hb2⟩
     refine ⟨_,rfl,hb2,?_⟩
     replace hacc:=(later_moves).trans _ _ _ hacc (hb2)
     simp only [Act.put,zLa,zLb,zLc]
     repeat (first | (refine Zf (later_moves) rfl rfl (fun _ _ _ h=>h) ?_;simp only [Act.put,zLa,zLb,zLc]) | (refine Ze (v:=?_) (later_moves) rfl rfl (fun _ _ _ h=>h) ?_ ?_;rotate_left;(· (intro w' hR;(first | have hcells:=Zb ((later_moves).trans _ _ _ hacc hR) | skip);go_simp;try with_reducible rfl));simp only [Act.put,zLa,zLb,zLc]))
     refine Zk (later_moves) rfl rfl rfl (fun _=>by go_simp <;> rfl) ((Y7 p s m _ hp).mono ?_)
     rintro e w3 ⟨rfl,hb3⟩
     refine ⟨_,rfl,hb3,?_⟩
     replace hacc:=(later_moves).trans _ _ _ hacc (hb3)
     simp only [Act.put,zLa,zLb,zLc]
     repeat (first | (refine Zf (later_moves) rfl rfl (fun _ _ _ h=>h) ?_;simp only [Act.put,zLa,zLb,zLc]) | (refine Ze (v:=?_) (later_moves) rfl rfl (fun _ _ _ h=>h) ?_ ?_;rotate_left;(· (intro w' hR;(first | have hcells:=Zb ((later_moves).trans _ _ _ hacc hR) | skip);go_simp;try with_reducible rfl));simp only [Act.put,zLa,zLb,zLc]))
     refine Zt ?_
     go_wp2
     go_roundw
     case rel=>exact ⟨j+1,by omega,by go_num,by rw [HE.out];rfl,Za hb.drew hacc⟩
     case measure=>simp [intOf];omega
    ·have d1:decide ((0:Int)≤(k:Int))=true:=decide_eq_true (by omega)
     have d2:decide ((k:Int)<(ws.length:Int))=false:=decide_eq_false (by omega)
     have HE:=Lib.hid (show YW p (l.take (j+1)) ws=s by rw [HS.out,Uf,if_neg (by simp;omega)])
     go_wp2_with fail
     go_roundw
     case rel=>exact ⟨j+1,by omega,by go_num,by rw [HE.out],hb⟩
     case measure=>simp [intOf];omega
  ·go_wp2
   go_ret
   have e:j=l.length:=by omega
   subst e
   exact ⟨by rw [List.take_length];rfl,hb⟩
def zIe (e:Ending):Prop:=∃ b,e= .returned (.bool b)
theorem Ud {p:Nat} {pub vars:Int} {rows:List Ya} (h:YC p pub vars rows=true):okP p=true:=by
 unfold YC at h
 simp only [Bool.and_eq_true] at h
 exact h.1.1.1.1.1
theorem RLin.open_ {w:World} {v:Value} {l:List (Int × Nat)} (h:RLin w [v] l):∃ A n c,v= .slice A n c∧n≤maxLen:=by
 obtain ⟨A,n,c,e,-,h1,h2,-⟩:=h
 simp at e
 exact ⟨A,n,c,e,by omega⟩
set_option maxRecDepth 100000 in
set_option maxHeartbeats 4000000 in
theorem zDw (p:Nat) (pub vars:Int) (A:Option Addr) (n c:Nat) (rows:List Ya) (w:World) (hr:RSl 3 Xb w [.slice A n c] rows) :
  Calls Tryz.prog 90 #[Yr p pub vars (.slice A n c)] w fun e w'=>zIe e∧Below w.heap.size w w':=by
 obtain ⟨A',n',c',he,hlen,hnc,hmx,hrd⟩:=hr
 simp at he
 obtain ⟨rfl,rfl,rfl⟩:=he
 subst hlen
 unfold Yr
 have gm:(rows.length:Int)≤9223372036854775807:=by
  have h3:=hnc
  have h4:=hmx
  simp [maxLen] at h4
  omega
 obtain ⟨w0,hw0⟩:∃ w0,w0=w.alloc (.cells #[.int .u64 (p:Int), .int .i64 pub, .int .i64 vars, .slice A rows.length c] 25):=⟨_,rfl⟩
 have hb0:Below w.heap.size w w0:=by rw [hw0];exact (Below.refl _ w).alloc (Nat.le_refl _) _
 have hB:Blk w0 w.heap.size 25 #[.int .u64 (p:Int), .int .i64 pub, .int .i64 vars, .slice A rows.length c]:=by rw [hw0];exact Blk.new w _ _
 go_enter Tryz.func90,Tryz.ntmps90
 go_wp2_with fail
 rw [←hw0]
 have HW:=Lib.hid hw0
 clear hw0
 go_loopw [3,4] (fun s i wr=>∃ (j kk:Nat) (t:Int),j≤rows.length∧i= .int .i64 (j:Int)∧s= .int .i64 t∧wr=w0.drewN kk)
  (fun _ i _=>rows.length-(intOf i).toNat)
 case atStart=>exact ⟨0,0,rows.length,Nat.zero_le _,rfl,rfl,rfl⟩
 case round =>
  obtain ⟨j,kk,t,hj,rfl,rfl,rfl⟩:=hrel
  have s3:(w0.drewN kk).cell? ⟨w.heap.size,3,none⟩=some (.slice A rows.length c):=(hB.drewN kk).cell 3
  by_cases hlt:j<rows.length
  ·by_cases z1:t≤400
   ·have d1:=decide_eq_true z1
    obtain ⟨b,q,rfl⟩:=hrd.base (by omega) (by omega)
    obtain ⟨cs,-,hc,x,y,z,rfl,hx1,hy1,hz1⟩:=(hrd.below ZB (below_drewN hb0 kk)).get hlt
    obtain ⟨A1,n1,c1,rfl,m1⟩:=RLin.open_ hx1
    obtain ⟨A2,n2,c2,rfl,m2⟩:=RLin.open_ hy1
    obtain ⟨A3,n3,c3,rfl,m3⟩:=RLin.open_ hz1
    have h0:(w0.drewN kk).cell? ⟨b,q+j*3,none⟩=some _:=hc 0 (by omega)
    have h1:(w0.drewN kk).cell? ⟨b,q+j*3+1,none⟩=some _:=hc 1 (by omega)
    have h2:(w0.drewN kk).cell? ⟨b,q+j*3+2,none⟩=some _:=hc 2 (by omega)
    have i1:(0:Int)≤(j:Int):=by omega
    have i2:(j:Int)<(rows.length:Int):=by omega
    simp [maxLen] at m1 m2 m3 h0 h1 h2
    clear hc hx1 hy1 hz1
    simp at s3
    go_wp2_with fail
    go_quiet (fail)
    go_wp2
    go_roundw
    case rel=>exact ⟨j+1,_,_,by omega,by go_num,rfl,rfl⟩
    case measure=>simp [intOf];omega
   ·have d1:=decide_eq_false z1
    go_wp2
    go_ret
    exact ⟨⟨_,rfl⟩,below_drewN hb0 _⟩
  ·go_wp2
   go_ret
   exact ⟨⟨_,rfl⟩,below_drewN hb0 _⟩
set_option maxHeartbeats 400000 in
theorem zJl (n:Nat) (w:World) (hn:n≤4096) :
  Calls Tryz.prog 138 #[.int .i64 (n:Int)] w fun e w'=>∃ k,e= .returned (.int .i64 ((2^k:Nat):Int))∧n≤2^k∧2^k≤2*n+1∧(1≤n→2^k<2*n)∧w'=w:=by
 go_enter Tryz.func138,Tryz.ntmps138
 go_wp2_with fail
 go_loopw [3] (fun i wr=>∃ (k m:Nat),i= .int .i64 (m:Int)∧Hid (m=2^k)∧0<m∧m≤2*n+1∧Hid (1≤n→m<2*n)∧wr=w)
  (fun i _=>2*n+1-(intOf i).toNat)
 case atStart=>exact ⟨0,1,rfl,rfl,by omega,by omega,(fun _=>by omega),by simp⟩
 case round =>
  obtain ⟨k,m,rfl,HM,hm0,hm1,HL,rfl⟩:=hrel
  by_cases hlt:m<n
  ·go_wp2
   go_roundw
   case rel =>
    refine ⟨k+1,2*m,by go_num,?_,by omega,by omega,(fun _=>by omega),by simp⟩
    show 2*m=2^(k+1)
    rw [HM.out,Nat.pow_succ,Nat.mul_comm]
   case measure=>simp [intOf];omega
  ·go_wp2
   go_ret
   refine ⟨k,?_,?_,?_,?_,rfl⟩
   ·rw [←HM.out];rfl
   ·rw [←HM.out];omega
   ·rw [←HM.out];omega
   ·rw [←HM.out];exact HL.out
structure ZO where
 p:Nat
 block:Nat
 queries:Nat
 k:Nat
 n:Nat
 secret:Nat
 rows:Nat
 a:Nat
 b:Nat
def Zz (l:ZO):Array Value:=#[.int .u64 (l.p:Int), .int .i64 (l.block:Int), .int .i64 (l.queries:Int), .int .i64 (l.k:Int), .int .i64 (l.n:Int), .int .i64 (l.secret:Int), .int .i64 (l.rows:Int), .int .i64 (l.a:Int), .int .i64 (l.b:Int), .int .i64 (l.b:Int), .int .i64 (l.b:Int)]
def Yj:Array Value:=#[.int .u64 0, .int .i64 0, .int .i64 0, .int .i64 0, .int .i64 0, .int .i64 0, .int .i64 0, .int .i64 0, .int .i64 0, .int .i64 0, .int .i64 0]
structure ZU (l:ZO):Prop where
 p:okP l.p=true
 b1:2≤l.block
 b2:l.block≤256
 q1:1≤l.queries
 q2:l.queries≤64
 k:l.k=l.block+l.queries
 n:∃ j,l.n=2^j
 n2:l.n≤1024
 s:l.secret≤65536
 r:l.rows≤16384
 a:l.a≤100000
 b:l.b≤100000
 bj:l.block &&& (l.block-1)=0
 bd:(l.p-1)%l.block=0
 nd:(l.p-1)%l.n=0
 nl:l.n<l.p-1
 nk:2*l.k≤l.n
 ae:l.a=(l.secret+l.block-1) / l.block
 be:l.b=(l.rows+l.block-1) / l.block
def UI (n:Nat):Nat:=2^((n-1).log2+1)
theorem zIc {n m:Nat} (hn:2≤n) (h:∃ k,m=2^k) (h1:n≤m) (h2:m<2*n):m=UI n:=by
 obtain ⟨k,rfl⟩:=h
 cases k with
 | zero=>simp at h1;omega
 | succ k =>
  unfold UI
  rw [Nat.pow_succ] at h1 h2
  have:(n-1).log2=k:=(Nat.log2_eq_iff (by omega)).2 ⟨by omega,by rw [Nat.pow_succ];omega⟩
  rw [this]
structure NewIn where
 p:Nat
 pub:Int
 vars:Int
 nr:Nat
 bl:Int
 bw:Int
 qs:Int
def NewIn.n (x:NewIn):Nat:=x.bw.toNat*UI (2*(x.bl.toNat+x.qs.toNat))
def Uu (x:NewIn):Int :=
 if x.bl<2∨256<x.bl∨x.bl.toNat &&& (x.bl.toNat-1)≠0∨x.qs<1∨64<x.qs∨(x.bw≠1∧x.bw≠2∧x.bw≠4∧x.bw≠8) then 1
 else if (x.p-1)%x.bl.toNat≠0∨(x.p-1)%x.n≠0∨x.p-1≤x.n then 7
 else if 1024<x.n then 3 else 0
def Gz (x:NewIn):ZO:=⟨x.p,x.bl.toNat,x.qs.toNat,x.bl.toNat+x.qs.toNat,x.n,(x.vars-1-x.pub).toNat,x.nr,((x.vars-1-x.pub).toNat+x.bl.toNat-1) / x.bl.toNat,(x.nr+x.bl.toNat-1) / x.bl.toNat⟩
structure J8 (L:ZO) (x:NewIn):Prop where
 p:L.p=x.p
 eq:L=Gz x
 err:Uu x=0
 pub:0≤x.pub
 vars:x.pub<x.vars
theorem Xe {w w1:World} {t1 t2 t3:TypeId} {cs1 cs2 cs3:Array Value} (hb:Below (((w.alloc (.cells cs1 t1)).alloc (.cells cs2 t2)).alloc (.cells cs3 t3)).heap.size (((w.alloc (.cells cs1 t1)).alloc (.cells cs2 t2)).alloc (.cells cs3 t3)) w1) :
  Blk w1 w.heap.size t1 cs1∧Blk w1 (w.heap.size+1) t2 cs2∧Blk w1 (w.heap.size+1+1) t3 cs3∧Below w.heap.size w w1:=by
 refine ⟨(((Blk.new w t1 cs1).alloc _).alloc _).below hb (by simp;omega),?_,?_,Za ((((Below.refl _ w).alloc (Nat.le_refl _) _).alloc (by simp) _).alloc (by simp;omega) _) hb⟩
 ·have:=((Blk.new (w.alloc (.cells cs1 t1)) t2 cs2).alloc (.cells cs3 t3)).below hb (by simp)
  simpa using this
 ·have:=(Blk.new ((w.alloc (.cells cs1 t1)).alloc (.cells cs2 t2)) t3 cs3).below hb (by simp)
  simpa using this
section
variable {w w0:World} {g B:Nat} {t:TypeId} {cs:Array Value}
theorem ZS {y0 y1 y2 y3 y4 y5 y6 y7 y8 y9 y10:Value} (k:Blk w g t #[y0,y1,y2,y3,y4,y5,y6,y7,y8,y9,y10]) (x0 x1 x2 x3 x4 x5 x6 x7 x8 x9 x10:Value) :
  Blk (((((((((((w.setCell ⟨g,0,none⟩ x0).setCell ⟨g,1,none⟩ x1).setCell ⟨g,2,none⟩ x2).setCell ⟨g,3,none⟩ x3).setCell ⟨g,4,none⟩ x4).setCell ⟨g,5,none⟩ x5).setCell ⟨g,6,none⟩ x6).setCell ⟨g,7,none⟩ x7).setCell ⟨g,8,none⟩ x8).setCell ⟨g,9,none⟩ x9).setCell ⟨g,10,none⟩ x10) g t #[x0,x1,x2,x3,x4,x5,x6,x7,x8,x9,x10]:=by
 have h:=((((((((((k.set_ 0 x0).set_ 1 x1).set_ 2 x2).set_ 3 x3).set_ 4 x4).set_ 5 x5).set_ 6 x6).set_ 7 x7).set_ 8 x8).set_ 9 x9).set_ 10 x10
 simpa using h
theorem ZN (h:Below B w0 w) (hg:B≤g) (x0 x1 x2 x3 x4 x5 x6 x7 x8 x9 x10:Value) :
  Below B w0 (((((((((((w.setCell ⟨g,0,none⟩ x0).setCell ⟨g,1,none⟩ x1).setCell ⟨g,2,none⟩ x2).setCell ⟨g,3,none⟩ x3).setCell ⟨g,4,none⟩ x4).setCell ⟨g,5,none⟩ x5).setCell ⟨g,6,none⟩ x6).setCell ⟨g,7,none⟩ x7).setCell ⟨g,8,none⟩ x8).setCell ⟨g,9,none⟩ x9).setCell ⟨g,10,none⟩ x10) :=
 ((((((((((h.setCell hg x0).setCell hg x1).setCell hg x2).setCell hg x3).setCell hg x4).setCell hg x5).setCell hg x6).setCell hg x7).setCell hg x8).setCell hg x9).setCell hg x10
end
theorem VI:∀ b:Fin 257,2≤b.val→bits .and .i64 (b.val:Int) ((b.val:Int)-1)=((b.val &&& (b.val-1):Nat):Int):=by decide +kernel
section
variable (p:Nat) (pub vars:Int) (A:Option Addr) (n c:Nat) (rows:List Ya) (bl bw qs:Int) (w:World)
def YG:Array Value:=#[Yr p pub vars (.slice A n c), .agg #[.int .i64 bl, .int .i64 bw, .int .i64 qs]]
end
set_option linter.unusedVariables false in
set_option maxRecDepth 100000 in
set_option maxHeartbeats 1000000 in
theorem zGn (p:Nat) (pub vars:Int) (A:Option Addr) (n c:Nat) (rows:List Ya) (bl bw qs:Int) (w:World) (hr:RSl 3 Xb w [.slice A n c] rows) (ht:YC p pub vars rows=true)
  (h:bl<2) :
  Calls Tryz.prog 93 (YG p pub vars A n c bl bw qs) w fun e w'=>e= .returned (.tuple #[.agg Yj, .int .i64 1])∧Below w.heap.size w w':=by
 have hok:=Ud ht
 have hp:=(Zr hok).2
 have HV:=Lib.hid (fun w' (hb:Below w.heap.size w w')=>Xk p pub vars A n c rows w' (ZA ZB _ _ _ _ hb hr) hp)
 rw [ht] at HV
 clear ht hok hp
 obtain ⟨A',n',c',he,hlen,-,-,-⟩:=hr
 simp at he
 obtain ⟨rfl,rfl,rfl⟩:=he
 subst hlen
 unfold YG Yr
 have hb0:Below w.heap.size w (((w.alloc (.cells #[.int .u64 (p:Int), .int .i64 pub, .int .i64 vars, .slice A rows.length c] 25)).alloc (.cells #[.int .i64 bl, .int .i64 bw, .int .i64 qs] 27)).alloc (.cells Yj 39)):=(((Below.refl _ w).alloc (Nat.le_refl _) _).alloc (by simp) _).alloc (by simp;omega) _
 unfold Yj at hb0
 have d1:decide (bl<2)=true:=decide_eq_true (by omega)
 go_enter Tryz.func93,Tryz.ntmps93
 go_wp2_with (go_at_call 91;refine (HV.out _ hb0).mono ?_;rintro e w1 ⟨rfl,hb⟩;obtain ⟨k2,k3,k4,hbw⟩:=Xe hb;have p0:w1.cell? ⟨w.heap.size+1,0,none⟩=some (.int .i64 bl):=k3.cell 0;have p1:w1.cell? ⟨w.heap.size+1,1,none⟩=some (.int .i64 bw):=k3.cell 1;have p2:w1.cell? ⟨w.heap.size+1,2,none⟩=some (.int .i64 qs):=k3.cell 2;have c4:=k4.cell;have f4:=k4.frozen;unfold Yj at c4;clear hb)
 have kW:=ZS k4 (.int .u64 0) (.int .i64 0) (.int .i64 0) (.int .i64 0) (.int .i64 0) (.int .i64 0) (.int .i64 0) (.int .i64 0) (.int .i64 0) (.int .i64 0) (.int .i64 0)
 have hW:=ZN (g:=w.heap.size+1+1) hbw (by omega) (.int .u64 0) (.int .i64 0) (.int .i64 0) (.int .i64 0) (.int .i64 0) (.int .i64 0) (.int .i64 0) (.int .i64 0) (.int .i64 0) (.int .i64 0) (.int .i64 0)
 clear c4 f4 p0 p1 p2 k2 k3 k4
 revert kW hW
 generalize ((((((((((w1.setCell _ _).setCell _ _).setCell _ _).setCell _ _).setCell _ _).setCell _ _).setCell _ _).setCell _ _).setCell _ _).setCell _ _).setCell _ _=wf
 intro kW hW
 have c4:=kW.cell
 exact bodyPost_ret (v:=.tuple #[.agg Yj, .int .i64 1]) (by simp [results,Tryz.results93,go_sem,c4,Yj]) rfl ⟨rfl,hW⟩
set_option linter.unusedVariables false in
set_option maxRecDepth 100000 in
set_option maxHeartbeats 1000000 in
theorem zGr (p:Nat) (pub vars:Int) (A:Option Addr) (n c:Nat) (rows:List Ya) (bl bw qs:Int) (w:World) (hr:RSl 3 Xb w [.slice A n c] rows) (ht:YC p pub vars rows=true)
  (h0:2≤bl) (h:256<bl) :
  Calls Tryz.prog 93 (YG p pub vars A n c bl bw qs) w fun e w'=>e= .returned (.tuple #[.agg Yj, .int .i64 1])∧Below w.heap.size w w':=by
 have hok:=Ud ht
 have hp:=(Zr hok).2
 have HV:=Lib.hid (fun w' (hb:Below w.heap.size w w')=>Xk p pub vars A n c rows w' (ZA ZB _ _ _ _ hb hr) hp)
 rw [ht] at HV
 clear ht hok hp
 obtain ⟨A',n',c',he,hlen,-,-,-⟩:=hr
 simp at he
 obtain ⟨rfl,rfl,rfl⟩:=he
 subst hlen
 unfold YG Yr
 have hb0:Below w.heap.size w (((w.alloc (.cells #[.int .u64 (p:Int), .int .i64 pub, .int .i64 vars, .slice A rows.length c] 25)).alloc (.cells #[.int .i64 bl, .int .i64 bw, .int .i64 qs] 27)).alloc (.cells Yj 39)):=(((Below.refl _ w).alloc (Nat.le_refl _) _).alloc (by simp) _).alloc (by simp;omega) _
 unfold Yj at hb0
 have d1:decide (bl<2)=false:=decide_eq_false (by omega)
 have d2:decide (256<bl)=true:=decide_eq_true (by omega)
 go_enter Tryz.func93,Tryz.ntmps93
 go_wp2_with (go_at_call 91;refine (HV.out _ hb0).mono ?_;rintro e w1 ⟨rfl,hb⟩;obtain ⟨k2,k3,k4,hbw⟩:=Xe hb;have p0:w1.cell? ⟨w.heap.size+1,0,none⟩=some (.int .i64 bl):=k3.cell 0;have p1:w1.cell? ⟨w.heap.size+1,1,none⟩=some (.int .i64 bw):=k3.cell 1;have p2:w1.cell? ⟨w.heap.size+1,2,none⟩=some (.int .i64 qs):=k3.cell 2;have c4:=k4.cell;have f4:=k4.frozen;unfold Yj at c4;clear hb)
 have kW:=ZS k4 (.int .u64 0) (.int .i64 0) (.int .i64 0) (.int .i64 0) (.int .i64 0) (.int .i64 0) (.int .i64 0) (.int .i64 0) (.int .i64 0) (.int .i64 0) (.int .i64 0)
 have hW:=ZN (g:=w.heap.size+1+1) hbw (by omega) (.int .u64 0) (.int .i64 0) (.int .i64 0) (.int .i64 0) (.int .i64 0) (.int .i64 0) (.int .i64 0) (.int .i64 0) (.int .i64 0) (.int .i64 0) (.int .i64 0)
 clear c4 f4 p0 p1 p2 k2 k3 k4
 revert kW hW
 generalize ((((((((((w1.setCell _ _).setCell _ _).setCell _ _).setCell _ _).setCell _ _).setCell _ _).setCell _ _).setCell _ _).setCell _ _).setCell _ _).setCell _ _=wf
 intro kW hW
 have c4:=kW.cell
 exact bodyPost_ret (v:=.tuple #[.agg Yj, .int .i64 1]) (by simp [results,Tryz.results93,go_sem,c4,Yj]) rfl ⟨rfl,hW⟩
set_option linter.unusedVariables false in
set_option maxRecDepth 100000 in
set_option maxHeartbeats 1000000 in
theorem zFx (p:Nat) (pub vars:Int) (A:Option Addr) (n c:Nat) (rows:List Ya) (bl bw qs:Int) (w:World) (hr:RSl 3 Xb w [.slice A n c] rows) (ht:YC p pub vars rows=true)
  (h0:2≤bl) (h1:bl≤256) (h:¬(bl.toNat &&& (bl.toNat-1)=0)) :
  Calls Tryz.prog 93 (YG p pub vars A n c bl bw qs) w fun e w'=>e= .returned (.tuple #[.agg Yj, .int .i64 1])∧Below w.heap.size w w':=by
 have hok:=Ud ht
 have hp:=(Zr hok).2
 have HV:=Lib.hid (fun w' (hb:Below w.heap.size w w')=>Xk p pub vars A n c rows w' (ZA ZB _ _ _ _ hb hr) hp)
 rw [ht] at HV
 clear ht hok hp
 obtain ⟨A',n',c',he,hlen,-,-,-⟩:=hr
 simp at he
 obtain ⟨rfl,rfl,rfl⟩:=he
 subst hlen
 unfold YG Yr
 have hb0:Below w.heap.size w (((w.alloc (.cells #[.int .u64 (p:Int), .int .i64 pub, .int .i64 vars, .slice A rows.length c] 25)).alloc (.cells #[.int .i64 bl, .int .i64 bw, .int .i64 qs] 27)).alloc (.cells Yj 39)):=(((Below.refl _ w).alloc (Nat.le_refl _) _).alloc (by simp) _).alloc (by simp;omega) _
 unfold Yj at hb0
 obtain ⟨b,rfl⟩:=Int.eq_ofNat_of_zero_le (show 0≤bl by omega)
 simp only [Int.toNat_natCast] at *
 have hand:=VI ⟨b,by omega⟩ (by show 2≤b;omega)
 simp only at hand
 have d1:decide ((b:Int)<2)=false:=decide_eq_false (by omega)
 have d2:decide ((256:Int)<(b:Int))=false:=decide_eq_false (by omega)
 generalize b &&& (b-1)=r at *
 have d3:((r:Int) != 0)=true:=by rw [bne_iff_ne];omega
 have i1:(1:Int)≤(b:Int):=by omega
 have i3:(b:Int)≤256:=by omega
 have i2:(0:Int)≤(b:Int)-1:=by omega
 clear h0 h1 h
 go_enter Tryz.func93,Tryz.ntmps93
 go_wp2_with (go_at_call 91;refine (HV.out _ hb0).mono ?_;rintro e w1 ⟨rfl,hb⟩;obtain ⟨k2,k3,k4,hbw⟩:=Xe hb;have p0:w1.cell? ⟨w.heap.size+1,0,none⟩=some (.int .i64 (b:Int)):=k3.cell 0;have p1:w1.cell? ⟨w.heap.size+1,1,none⟩=some (.int .i64 bw):=k3.cell 1;have p2:w1.cell? ⟨w.heap.size+1,2,none⟩=some (.int .i64 qs):=k3.cell 2;have c4:=k4.cell;have f4:=k4.frozen;unfold Yj at c4;clear hb)
 have kW:=ZS k4 (.int .u64 0) (.int .i64 0) (.int .i64 0) (.int .i64 0) (.int .i64 0) (.int .i64 0) (.int .i64 0) (.int .i64 0) (.int .i64 0) (.int .i64 0) (.int .i64 0)
 have hW:=ZN (g:=w.heap.size+1+1) hbw (by omega) (.int .u64 0) (.int .i64 0) (.int .i64 0) (.int .i64 0) (.int .i64 0) (.int .i64 0) (.int .i64 0) (.int .i64 0) (.int .i64 0) (.int .i64 0) (.int .i64 0)
 clear c4 f4 p0 p1 p2 k2 k3 k4
 revert kW hW
 generalize ((((((((((w1.setCell _ _).setCell _ _).setCell _ _).setCell _ _).setCell _ _).setCell _ _).setCell _ _).setCell _ _).setCell _ _).setCell _ _).setCell _ _=wf
 intro kW hW
 have c4:=kW.cell
 exact bodyPost_ret (v:=.tuple #[.agg Yj, .int .i64 1]) (by simp [results,Tryz.results93,go_sem,c4,Yj]) rfl ⟨rfl,hW⟩
set_option linter.unusedVariables false in
set_option maxRecDepth 100000 in
set_option maxHeartbeats 1000000 in
theorem zGp (p:Nat) (pub vars:Int) (A:Option Addr) (n c:Nat) (rows:List Ya) (bl bw qs:Int) (w:World) (hr:RSl 3 Xb w [.slice A n c] rows) (ht:YC p pub vars rows=true)
  (h0:2≤bl) (h1:bl≤256) (h2:bl.toNat &&& (bl.toNat-1)=0) (h:qs<1) :
  Calls Tryz.prog 93 (YG p pub vars A n c bl bw qs) w fun e w'=>e= .returned (.tuple #[.agg Yj, .int .i64 1])∧Below w.heap.size w w':=by
 have hok:=Ud ht
 have hp:=(Zr hok).2
 have HV:=Lib.hid (fun w' (hb:Below w.heap.size w w')=>Xk p pub vars A n c rows w' (ZA ZB _ _ _ _ hb hr) hp)
 rw [ht] at HV
 clear ht hok hp
 obtain ⟨A',n',c',he,hlen,-,-,-⟩:=hr
 simp at he
 obtain ⟨rfl,rfl,rfl⟩:=he
 subst hlen
 unfold YG Yr
 have hb0:Below w.heap.size w (((w.alloc (.cells #[.int .u64 (p:Int), .int .i64 pub, .int .i64 vars, .slice A rows.length c] 25)).alloc (.cells #[.int .i64 bl, .int .i64 bw, .int .i64 qs] 27)).alloc (.cells Yj 39)):=(((Below.refl _ w).alloc (Nat.le_refl _) _).alloc (by simp) _).alloc (by simp;omega) _
 unfold Yj at hb0
 obtain ⟨b,rfl⟩:=Int.eq_ofNat_of_zero_le (show 0≤bl by omega)
 simp only [Int.toNat_natCast] at *
 have hand:=VI ⟨b,by omega⟩ (by show 2≤b;omega)
 simp only at hand
 rw [h2] at hand
 have d1:decide ((b:Int)<2)=false:=decide_eq_false (by omega)
 have d2:decide ((256:Int)<(b:Int))=false:=decide_eq_false (by omega)
 have d4:decide (qs<1)=true:=decide_eq_true (by omega)
 have i1:(1:Int)≤(b:Int):=by omega
 have i3:(b:Int)≤256:=by omega
 have i2:(0:Int)≤(b:Int)-1:=by omega
 have h2':=Lib.hid h2
 clear h0 h1 h2
 go_enter Tryz.func93,Tryz.ntmps93
 go_wp2_with (go_at_call 91;refine (HV.out _ hb0).mono ?_;rintro e w1 ⟨rfl,hb⟩;obtain ⟨k2,k3,k4,hbw⟩:=Xe hb;have p0:w1.cell? ⟨w.heap.size+1,0,none⟩=some (.int .i64 (b:Int)):=k3.cell 0;have p1:w1.cell? ⟨w.heap.size+1,1,none⟩=some (.int .i64 bw):=k3.cell 1;have p2:w1.cell? ⟨w.heap.size+1,2,none⟩=some (.int .i64 qs):=k3.cell 2;have c4:=k4.cell;have f4:=k4.frozen;unfold Yj at c4;clear hb)
 have kW:=ZS k4 (.int .u64 0) (.int .i64 0) (.int .i64 0) (.int .i64 0) (.int .i64 0) (.int .i64 0) (.int .i64 0) (.int .i64 0) (.int .i64 0) (.int .i64 0) (.int .i64 0)
 have hW:=ZN (g:=w.heap.size+1+1) hbw (by omega) (.int .u64 0) (.int .i64 0) (.int .i64 0) (.int .i64 0) (.int .i64 0) (.int .i64 0) (.int .i64 0) (.int .i64 0) (.int .i64 0) (.int .i64 0) (.int .i64 0)
 clear c4 f4 p0 p1 p2 k2 k3 k4
 revert kW hW
 generalize ((((((((((w1.setCell _ _).setCell _ _).setCell _ _).setCell _ _).setCell _ _).setCell _ _).setCell _ _).setCell _ _).setCell _ _).setCell _ _).setCell _ _=wf
 intro kW hW
 have c4:=kW.cell
 exact bodyPost_ret (v:=.tuple #[.agg Yj, .int .i64 1]) (by simp [results,Tryz.results93,go_sem,c4,Yj]) rfl ⟨rfl,hW⟩
set_option linter.unusedVariables false in
set_option maxRecDepth 100000 in
set_option maxHeartbeats 1000000 in
theorem zG5 (p:Nat) (pub vars:Int) (A:Option Addr) (n c:Nat) (rows:List Ya) (bl bw qs:Int) (w:World) (hr:RSl 3 Xb w [.slice A n c] rows) (ht:YC p pub vars rows=true)
  (h0:2≤bl) (h1:bl≤256) (h2:bl.toNat &&& (bl.toNat-1)=0) (h3:1≤qs) (h:64<qs) :
  Calls Tryz.prog 93 (YG p pub vars A n c bl bw qs) w fun e w'=>e= .returned (.tuple #[.agg Yj, .int .i64 1])∧Below w.heap.size w w':=by
 have hok:=Ud ht
 have hp:=(Zr hok).2
 have HV:=Lib.hid (fun w' (hb:Below w.heap.size w w')=>Xk p pub vars A n c rows w' (ZA ZB _ _ _ _ hb hr) hp)
 rw [ht] at HV
 clear ht hok hp
 obtain ⟨A',n',c',he,hlen,-,-,-⟩:=hr
 simp at he
 obtain ⟨rfl,rfl,rfl⟩:=he
 subst hlen
 unfold YG Yr
 have hb0:Below w.heap.size w (((w.alloc (.cells #[.int .u64 (p:Int), .int .i64 pub, .int .i64 vars, .slice A rows.length c] 25)).alloc (.cells #[.int .i64 bl, .int .i64 bw, .int .i64 qs] 27)).alloc (.cells Yj 39)):=(((Below.refl _ w).alloc (Nat.le_refl _) _).alloc (by simp) _).alloc (by simp;omega) _
 unfold Yj at hb0
 obtain ⟨b,rfl⟩:=Int.eq_ofNat_of_zero_le (show 0≤bl by omega)
 simp only [Int.toNat_natCast] at *
 have hand:=VI ⟨b,by omega⟩ (by show 2≤b;omega)
 simp only at hand
 rw [h2] at hand
 have d1:decide ((b:Int)<2)=false:=decide_eq_false (by omega)
 have d2:decide ((256:Int)<(b:Int))=false:=decide_eq_false (by omega)
 have d4:decide (qs<1)=false:=decide_eq_false (by omega)
 have d5:decide (64<qs)=true:=decide_eq_true (by omega)
 have i1:(1:Int)≤(b:Int):=by omega
 have i3:(b:Int)≤256:=by omega
 have i2:(0:Int)≤(b:Int)-1:=by omega
 clear h0 h1 h2
 go_enter Tryz.func93,Tryz.ntmps93
 go_wp2_with (go_at_call 91;refine (HV.out _ hb0).mono ?_;rintro e w1 ⟨rfl,hb⟩;obtain ⟨k2,k3,k4,hbw⟩:=Xe hb;have p0:w1.cell? ⟨w.heap.size+1,0,none⟩=some (.int .i64 (b:Int)):=k3.cell 0;have p1:w1.cell? ⟨w.heap.size+1,1,none⟩=some (.int .i64 bw):=k3.cell 1;have p2:w1.cell? ⟨w.heap.size+1,2,none⟩=some (.int .i64 qs):=k3.cell 2;have c4:=k4.cell;have f4:=k4.frozen;unfold Yj at c4;clear hb)
 have kW:=ZS k4 (.int .u64 0) (.int .i64 0) (.int .i64 0) (.int .i64 0) (.int .i64 0) (.int .i64 0) (.int .i64 0) (.int .i64 0) (.int .i64 0) (.int .i64 0) (.int .i64 0)
 have hW:=ZN (g:=w.heap.size+1+1) hbw (by omega) (.int .u64 0) (.int .i64 0) (.int .i64 0) (.int .i64 0) (.int .i64 0) (.int .i64 0) (.int .i64 0) (.int .i64 0) (.int .i64 0) (.int .i64 0) (.int .i64 0)
 clear c4 f4 p0 p1 p2 k2 k3 k4
 revert kW hW
 generalize ((((((((((w1.setCell _ _).setCell _ _).setCell _ _).setCell _ _).setCell _ _).setCell _ _).setCell _ _).setCell _ _).setCell _ _).setCell _ _).setCell _ _=wf
 intro kW hW
 have c4:=kW.cell
 exact bodyPost_ret (v:=.tuple #[.agg Yj, .int .i64 1]) (by simp [results,Tryz.results93,go_sem,c4,Yj]) rfl ⟨rfl,hW⟩
set_option linter.unusedVariables false in
set_option maxRecDepth 100000 in
set_option maxHeartbeats 1000000 in
theorem zGt (p:Nat) (pub vars:Int) (A:Option Addr) (n c:Nat) (rows:List Ya) (bl bw qs:Int) (w:World) (hr:RSl 3 Xb w [.slice A n c] rows) (ht:YC p pub vars rows=true)
  (h0:2≤bl) (h1:bl≤256) (h2:bl.toNat &&& (bl.toNat-1)=0) (h3:1≤qs) (h4:qs≤64) (h:bw≠1∧bw≠2∧bw≠4∧bw≠8) :
  Calls Tryz.prog 93 (YG p pub vars A n c bl bw qs) w fun e w'=>e= .returned (.tuple #[.agg Yj, .int .i64 1])∧Below w.heap.size w w':=by
 have hok:=Ud ht
 have hp:=(Zr hok).2
 have HV:=Lib.hid (fun w' (hb:Below w.heap.size w w')=>Xk p pub vars A n c rows w' (ZA ZB _ _ _ _ hb hr) hp)
 rw [ht] at HV
 clear ht hok hp
 obtain ⟨A',n',c',he,hlen,-,-,-⟩:=hr
 simp at he
 obtain ⟨rfl,rfl,rfl⟩:=he
 subst hlen
 unfold YG Yr
 have hb0:Below w.heap.size w (((w.alloc (.cells #[.int .u64 (p:Int), .int .i64 pub, .int .i64 vars, .slice A rows.length c] 25)).alloc (.cells #[.int .i64 bl, .int .i64 bw, .int .i64 qs] 27)).alloc (.cells Yj 39)):=(((Below.refl _ w).alloc (Nat.le_refl _) _).alloc (by simp) _).alloc (by simp;omega) _
 unfold Yj at hb0
 obtain ⟨b,rfl⟩:=Int.eq_ofNat_of_zero_le (show 0≤bl by omega)
 simp only [Int.toNat_natCast] at *
 have hand:=VI ⟨b,by omega⟩ (by show 2≤b;omega)
 simp only at hand
 rw [h2] at hand
 have d1:decide ((b:Int)<2)=false:=decide_eq_false (by omega)
 have d2:decide ((256:Int)<(b:Int))=false:=decide_eq_false (by omega)
 have d4:decide (qs<1)=false:=decide_eq_false (by omega)
 have d5:decide (64<qs)=false:=decide_eq_false (by omega)
 have e1:(bw != 1)=true:=by rw [bne_iff_ne];omega
 have e2:(bw != 2)=true:=by rw [bne_iff_ne];omega
 have e4:(bw != 4)=true:=by rw [bne_iff_ne];omega
 have e8:(bw != 8)=true:=by rw [bne_iff_ne];omega
 have i1:(1:Int)≤(b:Int):=by omega
 have i3:(b:Int)≤256:=by omega
 have i2:(0:Int)≤(b:Int)-1:=by omega
 clear h0 h1 h2 h3 h4 h
 go_enter Tryz.func93,Tryz.ntmps93
 go_wp2_with (go_at_call 91;refine (HV.out _ hb0).mono ?_;rintro e w1 ⟨rfl,hb⟩;obtain ⟨k2,k3,k4,hbw⟩:=Xe hb;have p0:w1.cell? ⟨w.heap.size+1,0,none⟩=some (.int .i64 (b:Int)):=k3.cell 0;have p1:w1.cell? ⟨w.heap.size+1,1,none⟩=some (.int .i64 bw):=k3.cell 1;have p2:w1.cell? ⟨w.heap.size+1,2,none⟩=some (.int .i64 qs):=k3.cell 2;have c4:=k4.cell;have f4:=k4.frozen;unfold Yj at c4;clear hb)
 have kW:=ZS k4 (.int .u64 0) (.int .i64 0) (.int .i64 0) (.int .i64 0) (.int .i64 0) (.int .i64 0) (.int .i64 0) (.int .i64 0) (.int .i64 0) (.int .i64 0) (.int .i64 0)
 have hW:=ZN (g:=w.heap.size+1+1) hbw (by omega) (.int .u64 0) (.int .i64 0) (.int .i64 0) (.int .i64 0) (.int .i64 0) (.int .i64 0) (.int .i64 0) (.int .i64 0) (.int .i64 0) (.int .i64 0) (.int .i64 0)
 clear c4 f4 p0 p1 p2 k2 k3 k4
 revert kW hW
 generalize ((((((((((w1.setCell _ _).setCell _ _).setCell _ _).setCell _ _).setCell _ _).setCell _ _).setCell _ _).setCell _ _).setCell _ _).setCell _ _).setCell _ _=wf
 intro kW hW
 have c4:=kW.cell
 exact bodyPost_ret (v:=.tuple #[.agg Yj, .int .i64 1]) (by simp [results,Tryz.results93,go_sem,c4,Yj]) rfl ⟨rfl,hW⟩
theorem ZD (x:Int) (h1:-9223372036854775808≤x) (h2:x≤9223372036854775807):IntKind.i64.wrap x=x:=by rw [IntKind.wrap_i64];omega
theorem K3 (n:Nat) (w:World) (hn:n≤4096):Calls Tryz.prog 138 #[.int .i64 (n:Int)] w fun e w'=>∃ m,((∃ k,m=2^k)∧n≤m∧(1≤n→m<2*n))∧m≤2*n+1∧e= .returned (.int .i64 (m:Int))∧w'=w :=
 (zJl n w hn).mono fun _ _ ⟨k,he,hl,hm,hs,hw⟩=>⟨2^k,⟨⟨k,rfl⟩,hl,hs⟩,hm,he,hw⟩
def Uh (x:NewIn) (e:Ending):Prop:=∃ (lcs:Array Value) (er:Int),e= .returned (.tuple #[.agg lcs, .int .i64 er])∧((er≠0∧lcs=Yj∧er=Uu x)∨(er=0∧∃ L,ZU L∧J8 L x∧lcs=Zz L))
theorem UL {p U V nr b q bw pm N NN:Nat} (h0:2≤b) (h1:b≤256) (h2:b &&& (b-1)=0) (h3:1≤q) (h4:q≤64) (hw:bw=1∨bw=2∨bw=4∨bw=8) (hp:pm=p-1) (hN:(∃ k,N=2^k)∧2*(b+q)≤N∧(1≤2*(b+q)→N<2*(2*(b+q)))) (hNN:NN=bw*N) :
  NN=NewIn.n ⟨p,U,V,nr,b,bw,q⟩∧Uu ⟨p,U,V,nr,b,bw,q⟩=if pm%b≠0∨pm%NN≠0∨pm≤NN then 7 else if 1024<NN then 3 else 0:=by
 have e:=zIc (by omega) hN.1 hN.2.1 (hN.2.2 (by omega))
 have e2:NN=NewIn.n ⟨p,U,V,nr,b,bw,q⟩:=by
  show NN=(bw:Int).toNat*UI (2*((b:Int).toNat+(q:Int).toNat))
  rw [hNN,e]
  rfl
 refine ⟨e2,?_⟩
 unfold Uu
 rw [←e2,if_neg]
 ·simp only [Int.toNat_natCast,hp]
 ·simp only [Int.toNat_natCast]
  omega
set_option linter.unusedVariables false in
set_option maxRecDepth 100000 in
set_option maxHeartbeats 4000000 in
theorem zCw (p U V:Nat) (A:Option Addr) (n c:Nat) (rows:List Ya) (b q:Nat) (w:World) (hr:RSl 3 Xb w [.slice A n c] rows) (ht:YC p U V rows=true)
  (h0:2≤b) (h1:b≤256) (h2:b &&& (b-1)=0) (h3:1≤q) (h4:q≤64) :
  Calls Tryz.prog 93 (YG p U V A n c b 1 q) w fun e w'=>Uh ⟨p,U,V,rows.length,b,1,q⟩ e∧Below w.heap.size w w':=by
 have hok:=Ud ht
 obtain ⟨hp1,hp⟩:=Zr hok
 have HV:=Lib.hid (fun w' (hb:Below w.heap.size w w')=>Xk p U V A n c rows w' (ZA ZB _ _ _ _ hb hr) hp)
 rw [ht] at HV
 have hand:=VI ⟨b,by omega⟩ (by show 2≤b;omega)
 simp only at hand
 rw [h2] at hand
 have htt:U<V∧V≤65536∧rows.length≤16384:=by
  unfold YC at ht
  simp only [Bool.and_eq_true,Bool.not_eq_true',decide_eq_false_iff_not] at ht
  omega
 obtain ⟨t1,t2,t3⟩:=htt
 obtain ⟨A',n',c',he,hlen,hnc,hmx,-⟩:=hr
 simp at he
 obtain ⟨rfl,rfl,rfl⟩:=he
 subst hlen
 unfold YG Yr
 have hb0:Below w.heap.size w (((w.alloc (.cells #[.int .u64 (p:Int), .int .i64 (U:Int), .int .i64 (V:Int), .slice A rows.length c] 25)).alloc (.cells #[.int .i64 (b:Int), .int .i64 1, .int .i64 (q:Int)] 27)).alloc (.cells Yj 39)):=(((Below.refl _ w).alloc (Nat.le_refl _) _).alloc (by simp) _).alloc (by simp;omega) _
 unfold Yj at hb0
 have d1:decide ((b:Int)<2)=false:=decide_eq_false (by omega)
 have d2:decide ((256:Int)<(b:Int))=false:=decide_eq_false (by omega)
 have d4:decide ((q:Int)<1)=false:=decide_eq_false (by omega)
 have d5:decide ((64:Int)<(q:Int))=false:=decide_eq_false (by omega)
 have i1:(1:Int)≤(b:Int):=by omega
 have i2:(0:Int)≤(b:Int)-1:=by omega
 have i3:(b:Int)≤256:=by omega
 have i4:(1:Int)≤(q:Int):=by omega
 have i5:(q:Int)≤64:=by omega
 obtain ⟨k,hk⟩:∃ k,k=b+q:=⟨_,rfl⟩
 have ek:(b:Int)+(q:Int)=(k:Int):=by omega
 obtain ⟨s,hs⟩:∃ s,s=V-1-U:=⟨_,rfl⟩
 have es:(V:Int)-1-(U:Int)=(s:Int):=by omega
 have i6:(V:Int)≤65536:=by omega
 have i7:(1:Int)≤(V:Int):=by omega
 have i8:(k:Int)≤320:=by omega
 have i9:(0:Int)≤(k:Int):=by omega
 obtain ⟨pm,hpm⟩:∃ pm,pm=p-1:=⟨_,rfl⟩
 have ep:IntKind.u64.wrap ((p:Int)-1)=(pm:Int):=by rw [hpm];exact XD p 1 (by omega) hp
 have HF:=Lib.hid (fun w=>K3 (2*k) w (by omega))
 have ek2:(2:Int)*(k:Int)=((2*k:Nat):Int):=by omega
 obtain ⟨kk,hkk⟩:∃ kk,kk=2*k:=⟨_,rfl⟩
 rw [←hkk] at HF ek2
 have ek3:IntKind.i64.wrap (kk:Int)=(kk:Int):=ZD _ (by omega) (by omega)
 have j1:kk≤640:=by omega
 have HB:=Lib.hid (And.intro h0 h1)
 have HQ:=Lib.hid (And.intro h3 h4)
 have HK:=Lib.hid hk
 have HS:=Lib.hid hs
 have HT:=Lib.hid (And.intro hok (And.intro t1 (And.intro t2 t3)))
 have gm:(rows.length:Int)≤16384:=by omega
 have HP:=Lib.hid (show pm=p-1∧17≤p from ⟨hpm,hp1⟩)
 have hb256:IntKind.u64.wrap (b:Int)=(b:Int):=YJ b (by omega)
 have HG:=Lib.hid (fun N NN hN hNN=>UL (p:=p) (U:=U) (V:=V) (nr:=rows.length) (bw:=1) (N:=N) (NN:=NN) h0 h1 h2 h3 h4 (by omega) hpm hN hNN)
 have HB2:=Lib.hid h2
 have HKK:=Lib.hid (show kk=2*(b+q) by omega)
 clear h0 h1 h2 h3 h4 hk hs hkk hok hp hp1 ht t1 t2 t3 hpm
 go_enter Tryz.func93,Tryz.ntmps93
 go_upto_region 4 with (go_at_call 91;refine (HV.out _ hb0).mono ?_;rintro e w1 ⟨rfl,hb⟩;obtain ⟨k2,k3,k4,hbw⟩:=Xe hb;have p0:w1.cell? ⟨w.heap.size+1,0,none⟩=some (.int .i64 (b:Int)):=k3.cell 0;have p1:w1.cell? ⟨w.heap.size+1,1,none⟩=some (.int .i64 1):=k3.cell 1;have p2:w1.cell? ⟨w.heap.size+1,2,none⟩=some (.int .i64 (q:Int)):=k3.cell 2;have c2:=k2.cell;clear hb)
 have k2l:=k2.alloc (.cells #[.int .u64 (p:Int), .int .i64 (b:Int), .int .i64 (q:Int), .int .i64 (k:Int), .int .i64 0, .int .i64 (s:Int), .int .i64 (rows.length:Int), .int .i64 0, .int .i64 0, .int .i64 0, .int .i64 0] 39)
 have k3l:=k3.alloc (.cells #[.int .u64 (p:Int), .int .i64 (b:Int), .int .i64 (q:Int), .int .i64 (k:Int), .int .i64 0, .int .i64 (s:Int), .int .i64 (rows.length:Int), .int .i64 0, .int .i64 0, .int .i64 0, .int .i64 0] 39)
 have k4l:=k4.alloc (.cells #[.int .u64 (p:Int), .int .i64 (b:Int), .int .i64 (q:Int), .int .i64 (k:Int), .int .i64 0, .int .i64 (s:Int), .int .i64 (rows.length:Int), .int .i64 0, .int .i64 0, .int .i64 0, .int .i64 0] 39)
 have k6:=Blk.new w1 39 #[.int .u64 (p:Int), .int .i64 (b:Int), .int .i64 (q:Int), .int .i64 (k:Int), .int .i64 0, .int .i64 (s:Int), .int .i64 (rows.length:Int), .int .i64 0, .int .i64 0, .int .i64 0, .int .i64 0]
 have hbl:=hbw.alloc hbw.size (.cells #[.int .u64 (p:Int), .int .i64 (b:Int), .int .i64 (q:Int), .int .i64 (k:Int), .int .i64 0, .int .i64 (s:Int), .int .i64 (rows.length:Int), .int .i64 0, .int .i64 0, .int .i64 0, .int .i64 0] 39)
 have hg:=k4.lt
 clear p0 p1 p2 k2 k3 k4 hbw c2
 revert k2l k3l k4l k6 hbl
 generalize w1.alloc _=wl
 generalize w1.heap.size=g at *
 intro k2 k3 k4 k6 hbl
 have p0:wl.cell? ⟨w.heap.size,0,none⟩=some (.int .u64 (p:Int)):=k2.cell 0
 have p1:wl.cell? ⟨w.heap.size+1,1,none⟩=some (.int .i64 1):=k3.cell 1
 have c6:=k6.cell
 have f6:=k6.frozen
 have n1:w.heap.size+1≠g:=by omega
 have l1:=k3.lt
 refine Zq (Ky g 4) [5,8] [0,1,2,3,4,5,6,7,8] (by kernel_rfl) (by kernel_rfl) ?_
 refine U4 (Zn g 4) ?_
 intro Wc hacc
 repeat (first | (refine Zf (Zn g 4) rfl rfl (fun _ _ _ h=>h) ?_;simp only [Act.put,zLa,zLb,zLc]) | (refine Ze (v:=?_) (Zn g 4) rfl rfl (fun _ _ _ h=>h) ?_ ?_;rotate_left;(· (intro w' hR;(first | have hcells:=Xd ((Zn g 4).trans _ _ _ hacc hR) | skip);have hown:=Vx ((Zn g 4).trans _ _ _ hacc hR) k6;go_simp;try with_reducible rfl));simp only [Act.put,zLa,zLb,zLc]))
 refine Zk (Zn g 4) rfl rfl rfl (fun _=>by go_simp <;> rfl) ((HF.out _).mono ?_)
 rintro e w2 ⟨N,HN,hN2,rfl,rfl⟩
 refine ⟨_,rfl,(Zn g 4).refl _,?_⟩
 replace hacc:=(Zn g 4).trans _ _ _ hacc ((Zn g 4).refl _)
 simp only [Act.put,zLa,zLb,zLc]
 have hN3:N≤1281:=by omega
 have eN2:IntKind.i64.wrap (N:Int)=(N:Int):=ZD _ (by omega) (by omega)
 obtain ⟨NN,hNN⟩:∃ NN,NN=1*N:=⟨_,rfl⟩
 obtain rfl:NN=N:=by omega
 rw [HKK.out] at HN
 replace HG:=Lib.hid (HG.out _ _ HN hNN)
 replace HN:=Lib.hid HN
 replace hNN:=Lib.hid hNN
 repeat (first | (refine Zf (Zn g 4) rfl rfl (fun _ _ _ h=>h) ?_;simp only [Act.put,zLa,zLb,zLc]) | (refine Ze (v:=?_) (Zn g 4) rfl rfl (fun _ _ _ h=>h) ?_ ?_;rotate_left;(· (intro w' hR;(first | have hcells:=Xd ((Zn g 4).trans _ _ _ hacc hR) | skip);have hown:=Vx ((Zn g 4).trans _ _ _ hacc hR) k6;go_simp;try with_reducible rfl));simp only [Act.put,zLa,zLb,zLc]))
 have hNN2:NN≤10248:=by omega
 obtain ⟨v,kv⟩:=hacc.2 _ _ k6.drew
 have cv:=kv.cell
 have fv:=kv.frozen
 refine Z6 (Zn g 4) rfl rfl rfl ?_
 go_simp
 refine ⟨Vg _ _,?_⟩
 replace hacc:=(Zn g 4).trans _ _ _ hacc (Vg w2 (.int .i64 (NN:Int)))
 replace kv:=kv.set_ 4 (.int .i64 (NN:Int))
 simp at kv
 refine Zt ?_
 have n2:w.heap.size+1+1≠g:=by omega
 have hgw:w.heap.size≤g:=by omega
 have n0:w.heap.size≠g:=by omega
 have hgb:=hacc.1
 have k2':=k2.drew.grown hgb (by simp;omega)
 have k4':=k4.drew.grown hgb (by simp;omega)
 have hbl':=hbl.drew.trans (YT hgb w.heap.size (by simp;exact hbl.size) (fun x hx=>by injection hx;omega))
 clear k2 k3 k4 hbl hgb hacc p0 p1 c6 f6 cv fv k6 l1 eN2  ek ek2 ek3 es hand ep i1 i2 d1 d2 d4 d5 j1 hg n0 n1
 revert kv k2' k4' hbl'
 generalize w2.setCell _ _=wl
 intro kv k2 k4 hbl
 have p0:wl.cell? ⟨w.heap.size,0,none⟩=some (.int .u64 (p:Int)):=k2.cell 0
 have c6:=kv.cell
 have f6:=kv.frozen
 have c4:=k4.cell
 have f4:=k4.frozen
 have hN0:0<NN:=by
  obtain ⟨⟨z,hz⟩,-⟩:=HN.out
  have:0<2^z:=Nat.pow_pos (by omega)
  have:=hNN.out
  omega
 have ep:IntKind.u64.wrap ((p:Int)-1)=(pm:Int):=by rw [HP.out.1];exact XD p 1 (by have:=HP.out.2;omega) (Zr HT.out.1).2
 have eN:IntKind.u64.wrap (NN:Int)=(NN:Int):=YJ _ (by omega)
 have q1:(0:Int)<(b:Int):=by have:=HB.out;omega
 have q2:¬((b:Int)=0):=by omega
 have q3:¬(b=0):=by omega
 have q4:(0:Int)<(NN:Int):=by omega
 have q5:¬((NN:Int)=0):=by omega
 have q6:¬(NN=0):=by omega
 have r1:(pm:Int)%(b:Int)=((pm%b:Nat):Int):=rfl
 have r2:(pm:Int)%(NN:Int)=((pm%NN:Nat):Int):=rfl
 have r3:(pm:Int).tmod (b:Int)=((pm%b:Nat):Int):=rfl
 have r4:(pm:Int).tmod (NN:Int)=((pm%NN:Nat):Int):=rfl
 have HERR:Hid (∀ {er:Int},(if pm%b≠0∨pm%NN≠0∨pm≤NN then (7:Int) else if 1024<NN then 3 else 0)=er→er=Uu ⟨p,U,V,rows.length,b,1,q⟩):=fun h=>h.symm.trans (HG.out.2).symm
 obtain ⟨x1,hx1⟩:∃ x1,x1=pm%b:=⟨_,rfl⟩
 obtain ⟨x2,hx2⟩:∃ x2,x2=pm%NN:=⟨_,rfl⟩
 rw [←hx1] at r1 r3
 rw [←hx2] at r2 r4
 have HX1:=Lib.hid hx1.symm
 have HX2:=Lib.hid hx2.symm
 clear hx1 hx2
 by_cases z1:x1=0
 ·subst z1
  by_cases z2:x2=0
  ·subst z2
   by_cases z3:pm≤NN
   ·have y1:decide ((pm:Int)≤(NN:Int))=true:=decide_eq_true (by omega)
    have y2:decide (pm≤NN)=true:=decide_eq_true z3
    go_wp2_with fail
    have kW:=ZS k4 (.int .u64 0) (.int .i64 0) (.int .i64 0) (.int .i64 0) (.int .i64 0) (.int .i64 0) (.int .i64 0) (.int .i64 0) (.int .i64 0) (.int .i64 0) (.int .i64 0)
    have hW:=ZN (g:=w.heap.size+1+1) hbl (by omega) (.int .u64 0) (.int .i64 0) (.int .i64 0) (.int .i64 0) (.int .i64 0) (.int .i64 0) (.int .i64 0) (.int .i64 0) (.int .i64 0) (.int .i64 0) (.int .i64 0)
    clear c4 f4 c6 f6 p0 k4 kv
    revert kW hW
    generalize ((((((((((wl.setCell _ _).setCell _ _).setCell _ _).setCell _ _).setCell _ _).setCell _ _).setCell _ _).setCell _ _).setCell _ _).setCell _ _).setCell _ _=wf
    intro kW hW
    have c4:=kW.cell
    exact bodyPost_ret (v:=.tuple #[.agg Yj, .int .i64 7]) (by simp [results,Tryz.results93,go_sem,c4,Yj]) rfl ⟨⟨_,_,rfl, .inl ⟨by decide,rfl,HERR.out (by rw [if_pos (.inr (.inr z3))])⟩⟩,hW⟩
   ·have y1:decide ((pm:Int)≤(NN:Int))=false:=decide_eq_false (by omega)
    have y2:decide (pm≤NN)=false:=decide_eq_false z3
    by_cases z4:1024<NN
    ·have y3:decide ((1024:Int)<(NN:Int))=true:=decide_eq_true (by omega)
     have y4:decide (1024<NN)=true:=decide_eq_true z4
     go_wp2_with fail
     have kW:=ZS k4 (.int .u64 0) (.int .i64 0) (.int .i64 0) (.int .i64 0) (.int .i64 0) (.int .i64 0) (.int .i64 0) (.int .i64 0) (.int .i64 0) (.int .i64 0) (.int .i64 0)
     have hW:=ZN (g:=w.heap.size+1+1) hbl (by omega) (.int .u64 0) (.int .i64 0) (.int .i64 0) (.int .i64 0) (.int .i64 0) (.int .i64 0) (.int .i64 0) (.int .i64 0) (.int .i64 0) (.int .i64 0) (.int .i64 0)
     clear c4 f4 c6 f6 p0 k4 kv
     revert kW hW
     generalize ((((((((((wl.setCell _ _).setCell _ _).setCell _ _).setCell _ _).setCell _ _).setCell _ _).setCell _ _).setCell _ _).setCell _ _).setCell _ _).setCell _ _=wf
     intro kW hW
     have c4:=kW.cell
     exact bodyPost_ret (v:=.tuple #[.agg Yj, .int .i64 3]) (by simp [results,Tryz.results93,go_sem,c4,Yj]) rfl ⟨⟨_,_,rfl, .inl ⟨by decide,rfl,HERR.out (by rw [if_neg (by rw [HX1.out,HX2.out];omega),if_pos z4])⟩⟩,hW⟩
    ·have y3:decide ((1024:Int)<(NN:Int))=false:=decide_eq_false (by omega)
     have y4:decide (1024<NN)=false:=decide_eq_false z4
     have HU:=Lib.hid (fun w=>KM rows.length b w (by have:=HT.out;omega) (by omega) (by omega))
     have HV2:=Lib.hid (fun w=>KM s b w (by have:=HT.out;have:=HS.out;omega) (by omega) (by omega))
     have u1:(rows.length+b-1) / b≤100000:=Nat.le_trans (Nat.div_le_self _ _) (by omega)
     have u2:(s+b-1) / b≤100000:=Nat.le_trans (Nat.div_le_self _ _) (by have:=HT.out;have:=HS.out;omega)
     revert HU HV2 u1 u2
     obtain ⟨ub,hub⟩:∃ ub,ub=(rows.length+b-1) / b:=⟨_,rfl⟩
     obtain ⟨ua,hua⟩:∃ ua,ua=(s+b-1) / b:=⟨_,rfl⟩
     rw [←hub,←hua]
     have HUB:=Lib.hid hub
     have HUA:=Lib.hid hua
     clear hub hua
     intro HU HV2 u1 u2
     go_wp2_with fail
     refine (HU.out _).mono ?_
     rintro e w5 ⟨rfl,rfl⟩
     go_wp2_with fail
     refine (HV2.out _).mono ?_
     rintro e w6 ⟨rfl,rfl⟩
     go_wp2_with fail
     have k5:=(((k4.far (p:=⟨g,7,none⟩) n2 (.int .i64 (ua:Int))).far (p:=⟨g,8,none⟩) n2 (.int .i64 (ub:Int))).far (p:=⟨g,9,none⟩) n2 (.int .i64 (ub:Int))).far (p:=⟨g,10,none⟩) n2 (.int .i64 (ub:Int))
     have hb5:=(((hbl.setCell (p:=⟨g,7,none⟩) hgw (.int .i64 (ua:Int))).setCell (p:=⟨g,8,none⟩) hgw (.int .i64 (ub:Int))).setCell (p:=⟨g,9,none⟩) hgw (.int .i64 (ub:Int))).setCell (p:=⟨g,10,none⟩) hgw (.int .i64 (ub:Int))
     have kW:=ZS k5 (.int .u64 (p:Int)) (.int .i64 (b:Int)) (.int .i64 (q:Int)) (.int .i64 (k:Int)) (.int .i64 (NN:Int)) (.int .i64 (s:Int)) (.int .i64 (rows.length:Int)) (.int .i64 (ua:Int)) (.int .i64 (ub:Int)) (.int .i64 (ub:Int)) (.int .i64 (ub:Int))
     have hW:=ZN (g:=w.heap.size+1+1) hb5 (by omega) (.int .u64 (p:Int)) (.int .i64 (b:Int)) (.int .i64 (q:Int)) (.int .i64 (k:Int)) (.int .i64 (NN:Int)) (.int .i64 (s:Int)) (.int .i64 (rows.length:Int)) (.int .i64 (ua:Int)) (.int .i64 (ub:Int)) (.int .i64 (ub:Int)) (.int .i64 (ub:Int))
     clear c4 f4 c6 f6 p0 k4 kv k5 hb5
     revert kW hW
     generalize ((((((((((World.setCell _ _ _).setCell _ _).setCell _ _).setCell _ _).setCell _ _).setCell _ _).setCell _ _).setCell _ _).setCell _ _).setCell _ _).setCell _ _=wf
     intro kW hW
     have c4:=kW.cell
     have HL:ZU ⟨p,b,q,k,NN,s,rows.length,ua,ub⟩:=by
      have hB:=HB.out
      have hQ:=HQ.out
      have hT:=HT.out
      obtain ⟨⟨z,hz⟩,hz2,-⟩:=HN.out
      refine ⟨hT.1,hB.1,hB.2,hQ.1,hQ.2,HK.out,⟨z+0,?_⟩,by show NN≤1024;omega,by have:=HS.out;show s≤65536;omega,hT.2.2.2,u2,u1,HB2.out,?_,?_,?_,?_,HUA.out,HUB.out⟩
      ·show NN=2^(z+0)
       rw [hNN.out,hz,Nat.pow_add,Nat.mul_comm]
      ·show (p-1)%b=0
       rw [←HP.out.1];exact HX1.out
      ·show (p-1)%NN=0
       rw [←HP.out.1];exact HX2.out
      ·show NN<p-1
       rw [←HP.out.1];omega
      ·show 2*k≤NN
       have:=hNN.out
       have:=HK.out
       omega
     have HF2:J8 ⟨p,b,q,k,NN,s,rows.length,ua,ub⟩ ⟨p,U,V,rows.length,b,1,q⟩:=by
      have e1:((V:Int)-1-(U:Int)).toNat=s:=by have:=HS.out;omega
      refine ⟨rfl,?_,(HERR.out (by rw [if_neg (by rw [HX1.out,HX2.out];omega),if_neg z4])).symm,by show (0:Int)≤U;omega,by have:=HT.out;show (U:Int)<V;omega⟩
      have e5:NewIn.n ⟨p,U,V,rows.length,b,1,q⟩=NN:=HG.out.1.symm
      unfold Gz
      simp only [Int.toNat_natCast,e1]
      rw [e5,HK.out,HUA.out,HUB.out]
     exact bodyPost_ret (v:=.tuple #[.agg (Zz ⟨p,b,q,k,NN,s,rows.length,ua,ub⟩), .int .i64 0]) (by simp [results,Tryz.results93,go_sem,c4,Zz]) rfl ⟨⟨_,_,rfl, .inr ⟨rfl,_,HL,HF2,rfl⟩⟩,hW⟩
  ·have y1:((x2:Int) != 0)=true:=by rw [bne_iff_ne];omega
   have y2:(x2 != 0)=true:=by rw [bne_iff_ne];exact z2
   go_wp2_with fail
   have kW:=ZS k4 (.int .u64 0) (.int .i64 0) (.int .i64 0) (.int .i64 0) (.int .i64 0) (.int .i64 0) (.int .i64 0) (.int .i64 0) (.int .i64 0) (.int .i64 0) (.int .i64 0)
   have hW:=ZN (g:=w.heap.size+1+1) hbl (by omega) (.int .u64 0) (.int .i64 0) (.int .i64 0) (.int .i64 0) (.int .i64 0) (.int .i64 0) (.int .i64 0) (.int .i64 0) (.int .i64 0) (.int .i64 0) (.int .i64 0)
   clear c4 f4 c6 f6 p0 k4 kv
   revert kW hW
   generalize ((((((((((wl.setCell _ _).setCell _ _).setCell _ _).setCell _ _).setCell _ _).setCell _ _).setCell _ _).setCell _ _).setCell _ _).setCell _ _).setCell _ _=wf
   intro kW hW
   have c4:=kW.cell
   exact bodyPost_ret (v:=.tuple #[.agg Yj, .int .i64 7]) (by simp [results,Tryz.results93,go_sem,c4,Yj]) rfl ⟨⟨_,_,rfl, .inl ⟨by decide,rfl,HERR.out (by rw [if_pos (.inr (.inl (by rw [HX2.out];exact z2)))])⟩⟩,hW⟩
 ·have y1:((x1:Int) != 0)=true:=by rw [bne_iff_ne];omega
  have y2:(x1 != 0)=true:=by rw [bne_iff_ne];exact z1
  go_wp2_with fail
  have kW:=ZS k4 (.int .u64 0) (.int .i64 0) (.int .i64 0) (.int .i64 0) (.int .i64 0) (.int .i64 0) (.int .i64 0) (.int .i64 0) (.int .i64 0) (.int .i64 0) (.int .i64 0)
  have hW:=ZN (g:=w.heap.size+1+1) hbl (by omega) (.int .u64 0) (.int .i64 0) (.int .i64 0) (.int .i64 0) (.int .i64 0) (.int .i64 0) (.int .i64 0) (.int .i64 0) (.int .i64 0) (.int .i64 0) (.int .i64 0)
  clear c4 f4 c6 f6 p0 k4 kv
  revert kW hW
  generalize ((((((((((wl.setCell _ _).setCell _ _).setCell _ _).setCell _ _).setCell _ _).setCell _ _).setCell _ _).setCell _ _).setCell _ _).setCell _ _).setCell _ _=wf
  intro kW hW
  have c4:=kW.cell
  exact bodyPost_ret (v:=.tuple #[.agg Yj, .int .i64 7]) (by simp [results,Tryz.results93,go_sem,c4,Yj]) rfl ⟨⟨_,_,rfl, .inl ⟨by decide,rfl,HERR.out (by rw [if_pos (.inl (by rw [HX1.out];exact z1))])⟩⟩,hW⟩
end Go.Proofs.YtakjnmojigechaaGreat
