/- A part of the proof. No condition. -/
import Derived.Test.YtdhhdplholkmdaaGreatProg
import Derived.Test.YtdhhdplholkmdaaGreatPE7
import Derived.Test.YtdhhdplholkmdaaGreatPE11

namespace Go.Proofs.YtdhhdplholkmdaaGreat
open Go.RowKit
theorem Ym {w w':World} {p:Addr} {v:Value} (hR:Z4 w w') (h:w.cell? p=some v):w'.cell? p=some v:=(Below.cell hR (World.block_lt_of_cell? _ _ h)).trans h
def Zr (p:Nat) (pub vars:Int) (rows:List Zv):Bool :=
 okP p&&!decide (pub<0)&&!decide (vars≤pub)&&!decide (65536<vars)&&!decide ((16384:Int)<(rows.length:Int))&&rows.all (Yp p vars)
set_option linter.unusedSimpArgs false in
set_option maxRecDepth 100000 in
set_option maxHeartbeats 4000000 in
theorem Zy (p:Nat) (pub vars:Int) (A:Option Addr) (n c:Nat) (rows:List Zv) (w:World) (hr:RSl 3 Z9 w [.slice A n c] rows) (hp:p<18446744073709551616) :
  Calls Tryz.prog 77 #[ZE p pub vars (.slice A n c)] w fun e w'=>e= .returned (.bool (Zr p pub vars rows))∧Below w.heap.size w w':=by
 obtain ⟨A',n',c',he,hlen,hnc,hmx,hrd⟩:=hr
 simp at he
 obtain ⟨rfl,rfl,rfl⟩:=he
 subst hlen
 unfold ZE
 cases b1:okP p
 ·have E:=Lib.hid (show Zr p pub vars rows=false by simp [Zr,b1])
  have B1:=Lib.hid b1
  clear b1
  go_enter Tryz.func77,Tryz.ntmps77
  go_wp2_with (go_at_call 76;refine (ZM p _ hp).mono ?_;rintro e w1 ⟨rfl,hb⟩;rw [B1.out];have hB:=(Blk.new w _ _).below hb (by simp);have hb1:Below w.heap.size w w1:=Za ((Below.refl _ w).alloc (Nat.le_refl _) _) hb;have t1:w1.cell? ⟨w.heap.size,1,none⟩=some (.int .i64 pub):=hB.cell 1;have t2:w1.cell? ⟨w.heap.size,2,none⟩=some (.int .i64 vars):=hB.cell 2;have t3:w1.cell? ⟨w.heap.size,3,none⟩=some (.slice A rows.length c):=hB.cell 3;clear hb)
  go_ret
  exact ⟨by rw [E.out];rfl,hb1⟩
 have B1:=Lib.hid b1
 by_cases z1:pub<0
 ·have E:=Lib.hid (show Zr p pub vars rows=false by unfold Zr;rw [decide_eq_true z1];simp)
  have d1:=decide_eq_true z1
  clear b1
  go_enter Tryz.func77,Tryz.ntmps77
  go_wp2_with (go_at_call 76;refine (ZM p _ hp).mono ?_;rintro e w1 ⟨rfl,hb⟩;rw [B1.out];have hB:=(Blk.new w _ _).below hb (by simp);have hb1:Below w.heap.size w w1:=Za ((Below.refl _ w).alloc (Nat.le_refl _) _) hb;have t1:w1.cell? ⟨w.heap.size,1,none⟩=some (.int .i64 pub):=hB.cell 1;have t2:w1.cell? ⟨w.heap.size,2,none⟩=some (.int .i64 vars):=hB.cell 2;have t3:w1.cell? ⟨w.heap.size,3,none⟩=some (.slice A rows.length c):=hB.cell 3;clear hb)
  go_ret
  exact ⟨by rw [E.out];rfl,hb1⟩
 have d1:=decide_eq_false z1
 by_cases z2:vars≤pub
 ·have E:=Lib.hid (show Zr p pub vars rows=false by unfold Zr;rw [decide_eq_true z2];simp)
  have d2:=decide_eq_true z2
  clear b1
  go_enter Tryz.func77,Tryz.ntmps77
  go_wp2_with (go_at_call 76;refine (ZM p _ hp).mono ?_;rintro e w1 ⟨rfl,hb⟩;rw [B1.out];have hB:=(Blk.new w _ _).below hb (by simp);have hb1:Below w.heap.size w w1:=Za ((Below.refl _ w).alloc (Nat.le_refl _) _) hb;have t1:w1.cell? ⟨w.heap.size,1,none⟩=some (.int .i64 pub):=hB.cell 1;have t2:w1.cell? ⟨w.heap.size,2,none⟩=some (.int .i64 vars):=hB.cell 2;have t3:w1.cell? ⟨w.heap.size,3,none⟩=some (.slice A rows.length c):=hB.cell 3;clear hb)
  go_ret
  exact ⟨by rw [E.out];rfl,hb1⟩
 have d2:=decide_eq_false z2
 by_cases z3:65536<vars
 ·have E:=Lib.hid (show Zr p pub vars rows=false by unfold Zr;rw [decide_eq_true z3];simp)
  have d3:=decide_eq_true z3
  clear b1
  go_enter Tryz.func77,Tryz.ntmps77
  go_wp2_with (go_at_call 76;refine (ZM p _ hp).mono ?_;rintro e w1 ⟨rfl,hb⟩;rw [B1.out];have hB:=(Blk.new w _ _).below hb (by simp);have hb1:Below w.heap.size w w1:=Za ((Below.refl _ w).alloc (Nat.le_refl _) _) hb;have t1:w1.cell? ⟨w.heap.size,1,none⟩=some (.int .i64 pub):=hB.cell 1;have t2:w1.cell? ⟨w.heap.size,2,none⟩=some (.int .i64 vars):=hB.cell 2;have t3:w1.cell? ⟨w.heap.size,3,none⟩=some (.slice A rows.length c):=hB.cell 3;clear hb)
  go_ret
  exact ⟨by rw [E.out];rfl,hb1⟩
 have d3:=decide_eq_false z3
 by_cases z4:(16384:Int)<(rows.length:Int)
 ·have E:=Lib.hid (show Zr p pub vars rows=false by unfold Zr;rw [decide_eq_true z4];simp)
  have d4:=decide_eq_true z4
  clear b1
  go_enter Tryz.func77,Tryz.ntmps77
  go_wp2_with (go_at_call 76;refine (ZM p _ hp).mono ?_;rintro e w1 ⟨rfl,hb⟩;rw [B1.out];have hB:=(Blk.new w _ _).below hb (by simp);have hb1:Below w.heap.size w w1:=Za ((Below.refl _ w).alloc (Nat.le_refl _) _) hb;have t1:w1.cell? ⟨w.heap.size,1,none⟩=some (.int .i64 pub):=hB.cell 1;have t2:w1.cell? ⟨w.heap.size,2,none⟩=some (.int .i64 vars):=hB.cell 2;have t3:w1.cell? ⟨w.heap.size,3,none⟩=some (.slice A rows.length c):=hB.cell 3;clear hb)
  go_ret
  exact ⟨by rw [E.out];rfl,hb1⟩
 have d4:=decide_eq_false z4
 have E:=Lib.hid (show Zr p pub vars rows=rows.all (Yp p vars) by unfold Zr;rw [b1,d1,d2,d3,d4];simp)
 clear b1
 go_enter Tryz.func77,Tryz.ntmps77
 go_wp2_with (go_at_call 76;refine (ZM p _ hp).mono ?_;rintro e w1 ⟨rfl,hb⟩;rw [B1.out];have hB:=(Blk.new w _ _).below hb (by simp);have hb1:Below w.heap.size w w1:=Za ((Below.refl _ w).alloc (Nat.le_refl _) _) hb;have t1:w1.cell? ⟨w.heap.size,1,none⟩=some (.int .i64 pub):=hB.cell 1;have t2:w1.cell? ⟨w.heap.size,2,none⟩=some (.int .i64 vars):=hB.cell 2;have t3:w1.cell? ⟨w.heap.size,3,none⟩=some (.slice A rows.length c):=hB.cell 3;clear hb)
 go_loopw [3] (fun i wr=>∃ j:Nat,j≤rows.length∧i= .int .i64 (j:Int)∧Below w1.heap.size w1 wr∧Hid (∀ k<j,∀ h:k<rows.length,Yp p vars rows[k]=true))
  (fun i _=>rows.length-(intOf i).toNat)
 case atStart=>exact ⟨0,Nat.zero_le _,rfl,Below.refl _ _,fun k hk=>by omega⟩
 case round =>
  obtain ⟨j,hj,rfl,hbr,HB⟩:=hrel
  have s3:wr.cell? ⟨w.heap.size,3,none⟩=some (.slice A rows.length c):=(hB.below hbr hB.lt).cell 3
  by_cases hlt:j<rows.length
  ·have hBr:Blk wr.drew w.heap.size 25 _:=hB.below hbr.drew hB.lt
   have hbw:Below w.heap.size w wr.drew:=Za hb1 hbr.drew
   obtain ⟨b,q,rfl⟩:=hrd.base (by omega) (by omega)
   obtain ⟨cs,-,hc,x,y,z,rfl,hx1,hy1,hz1⟩:=(hrd.below Zj hbw).get hlt
   have h0:wr.drew.cell? ⟨b,q+j*3,none⟩=some x:=hc 0 (by omega)
   have h1:wr.drew.cell? ⟨b,q+j*3+1,none⟩=some y:=hc 1 (by omega)
   have h2:wr.drew.cell? ⟨b,q+j*3+2,none⟩=some z:=hc 2 (by omega)
   have HL:=Lib.hid hlt
   have i1:(0:Int)≤(j:Int):=by omega
   have i2:(j:Int)<(rows.length:Int):=by omega
   clear hc
   cases bo:Yp p vars rows[j]
   ·have HO:=Lib.hid bo
    clear bo
    go_wp2_with fail
    refine Xt Z4 (by kernel_rfl) ?_
    refine ZD 0 (v:=ZE p pub vars (.slice (some ⟨b,q,none⟩) rows.length c)) later_moves (by decide) (by kernel_rfl) (by kernel_rfl) (by kernel_rfl) (fun _ _ _ h=>h) (Z2 (by rfl) ?_) ?_;· ( intro w' hR;simp only [List.getElem_cons_succ,List.getElem_cons_zero];unfold ZE;have q0:=(hBr.below hR hBr.lt).cell 0;have q1:=(hBr.below hR hBr.lt).cell 1;have q2:=(hBr.below hR hBr.lt).cell 2;have q3:=(hBr.below hR hBr.lt).cell 3;simp at q0 q1 q2 q3;go_simp )
    simp only [Act.put,List.getElem_cons_succ,List.getElem_cons_zero,List.setIfInBounds_toArray,List.set_cons_zero,List.set_cons_succ]
    refine ZD 1 (v:=?_) later_moves (by decide) (by kernel_rfl) (by kernel_rfl) (by kernel_rfl) (fun _ _ _ h=>h) (Z2 (by rfl) ?_) ?_;rotate_left;· ( intro w' hR;simp only [List.getElem_cons_succ,List.getElem_cons_zero];go_simp;try with_reducible rfl )
    simp only [Act.put,List.getElem_cons_succ,List.getElem_cons_zero,List.setIfInBounds_toArray,List.set_cons_zero,List.set_cons_succ]
    refine ZD 2 (v:=.slice (some ⟨b,q,none⟩) rows.length c) later_moves (by decide) (by kernel_rfl) (by kernel_rfl) (by kernel_rfl) (fun _ _ _ h=>h) (Z2 (by rfl) ?_) ?_;· ( intro w' hR;simp only [List.getElem_cons_succ,List.getElem_cons_zero];have q3:=(hBr.below hR hBr.lt).cell 3;simp at q3;go_simp )
    simp only [Act.put,List.getElem_cons_succ,List.getElem_cons_zero,List.setIfInBounds_toArray,List.set_cons_zero,List.set_cons_succ]
    refine ZD 3 (v:=?_) later_moves (by decide) (by kernel_rfl) (by kernel_rfl) (by kernel_rfl) (fun _ _ _ h=>h) (Z2 (by rfl) ?_) ?_;rotate_left;· ( intro w' hR;simp only [List.getElem_cons_succ,List.getElem_cons_zero];go_simp;try with_reducible rfl )
    simp only [Act.put,List.getElem_cons_succ,List.getElem_cons_zero,List.setIfInBounds_toArray,List.set_cons_zero,List.set_cons_succ]
    refine ZD 4 (v:=?_) later_moves (by decide) (by kernel_rfl) (by kernel_rfl) (by kernel_rfl) (fun _ _ _ h=>h) (Z2 (by rfl) ?_) ?_;rotate_left;· ( intro w' hR;simp only [List.getElem_cons_succ,List.getElem_cons_zero];go_simp;try with_reducible rfl )
    simp only [Act.put,List.getElem_cons_succ,List.getElem_cons_zero,List.setIfInBounds_toArray,List.set_cons_zero,List.set_cons_succ]
    refine ZD 5 (v:=.agg #[x,y,z]) later_moves (by decide) (by kernel_rfl) (by kernel_rfl) (by kernel_rfl) (fun _ _ _ h=>h) (Z2 (by rfl) ?_) ?_;· ( intro w' hR;simp only [List.getElem_cons_succ,List.getElem_cons_zero];have r0:=Ym hR h0;have r1:=Ym hR h1;have r2:=Ym hR h2;go_simp )
    simp only [Act.put,List.getElem_cons_succ,List.getElem_cons_zero,List.setIfInBounds_toArray,List.set_cons_zero,List.set_cons_succ]
    refine VS 6 later_moves (by decide) (by kernel_rfl) (by rfl) ((Uj p pub vars (.slice (some ⟨b,q,none⟩) rows.length c) rows[j] x y z _ hx1 hy1 hz1 hp).mono ?_) (fun _=>by simp only [List.getElem_cons_succ,List.getElem_cons_zero];go_simp)
    rintro e w3 ⟨rfl,hb3⟩
    rw [HO.out]
    refine ⟨_,rfl,hb3,?_⟩
    simp only [Act.put,List.getElem_cons_succ,List.getElem_cons_zero,List.setIfInBounds_toArray,List.set_cons_zero,List.set_cons_succ]
    refine ZD 7 (v:=?_) later_moves (by decide) (by kernel_rfl) (by kernel_rfl) (by kernel_rfl) (fun _ _ _ h=>h) (Z2 (by rfl) ?_) ?_;rotate_left;· ( intro w' hR;simp only [List.getElem_cons_succ,List.getElem_cons_zero];go_simp;try with_reducible rfl )
    simp only [Act.put,List.getElem_cons_succ,List.getElem_cons_zero,List.setIfInBounds_toArray,List.set_cons_zero,List.set_cons_succ]
    refine X4 (by kernel_rfl) ?_
    go_wp2
    go_ret
    refine ⟨by rw [E.out,List.all_eq_false.2 ⟨rows[j],List.getElem_mem HL.out,fun h=>Bool.noConfusion (HO.out.symm.trans h)⟩];rfl,Za hbw hb3⟩
   ·have HO:=Lib.hid bo
    clear bo
    go_wp2_with fail
    refine Xt Z4 (by kernel_rfl) ?_
    refine ZD 0 (v:=ZE p pub vars (.slice (some ⟨b,q,none⟩) rows.length c)) later_moves (by decide) (by kernel_rfl) (by kernel_rfl) (by kernel_rfl) (fun _ _ _ h=>h) (Z2 (by rfl) ?_) ?_;· ( intro w' hR;simp only [List.getElem_cons_succ,List.getElem_cons_zero];unfold ZE;have q0:=(hBr.below hR hBr.lt).cell 0;have q1:=(hBr.below hR hBr.lt).cell 1;have q2:=(hBr.below hR hBr.lt).cell 2;have q3:=(hBr.below hR hBr.lt).cell 3;simp at q0 q1 q2 q3;go_simp )
    simp only [Act.put,List.getElem_cons_succ,List.getElem_cons_zero,List.setIfInBounds_toArray,List.set_cons_zero,List.set_cons_succ]
    refine ZD 1 (v:=?_) later_moves (by decide) (by kernel_rfl) (by kernel_rfl) (by kernel_rfl) (fun _ _ _ h=>h) (Z2 (by rfl) ?_) ?_;rotate_left;· ( intro w' hR;simp only [List.getElem_cons_succ,List.getElem_cons_zero];go_simp;try with_reducible rfl )
    simp only [Act.put,List.getElem_cons_succ,List.getElem_cons_zero,List.setIfInBounds_toArray,List.set_cons_zero,List.set_cons_succ]
    refine ZD 2 (v:=.slice (some ⟨b,q,none⟩) rows.length c) later_moves (by decide) (by kernel_rfl) (by kernel_rfl) (by kernel_rfl) (fun _ _ _ h=>h) (Z2 (by rfl) ?_) ?_;· ( intro w' hR;simp only [List.getElem_cons_succ,List.getElem_cons_zero];have q3:=(hBr.below hR hBr.lt).cell 3;simp at q3;go_simp )
    simp only [Act.put,List.getElem_cons_succ,List.getElem_cons_zero,List.setIfInBounds_toArray,List.set_cons_zero,List.set_cons_succ]
    refine ZD 3 (v:=?_) later_moves (by decide) (by kernel_rfl) (by kernel_rfl) (by kernel_rfl) (fun _ _ _ h=>h) (Z2 (by rfl) ?_) ?_;rotate_left;· ( intro w' hR;simp only [List.getElem_cons_succ,List.getElem_cons_zero];go_simp;try with_reducible rfl )
    simp only [Act.put,List.getElem_cons_succ,List.getElem_cons_zero,List.setIfInBounds_toArray,List.set_cons_zero,List.set_cons_succ]
    refine ZD 4 (v:=?_) later_moves (by decide) (by kernel_rfl) (by kernel_rfl) (by kernel_rfl) (fun _ _ _ h=>h) (Z2 (by rfl) ?_) ?_;rotate_left;· ( intro w' hR;simp only [List.getElem_cons_succ,List.getElem_cons_zero];go_simp;try with_reducible rfl )
    simp only [Act.put,List.getElem_cons_succ,List.getElem_cons_zero,List.setIfInBounds_toArray,List.set_cons_zero,List.set_cons_succ]
    refine ZD 5 (v:=.agg #[x,y,z]) later_moves (by decide) (by kernel_rfl) (by kernel_rfl) (by kernel_rfl) (fun _ _ _ h=>h) (Z2 (by rfl) ?_) ?_;· ( intro w' hR;simp only [List.getElem_cons_succ,List.getElem_cons_zero];have r0:=Ym hR h0;have r1:=Ym hR h1;have r2:=Ym hR h2;go_simp )
    simp only [Act.put,List.getElem_cons_succ,List.getElem_cons_zero,List.setIfInBounds_toArray,List.set_cons_zero,List.set_cons_succ]
    refine VS 6 later_moves (by decide) (by kernel_rfl) (by rfl) ((Uj p pub vars (.slice (some ⟨b,q,none⟩) rows.length c) rows[j] x y z _ hx1 hy1 hz1 hp).mono ?_) (fun _=>by simp only [List.getElem_cons_succ,List.getElem_cons_zero];go_simp)
    rintro e w3 ⟨rfl,hb3⟩
    rw [HO.out]
    refine ⟨_,rfl,hb3,?_⟩
    simp only [Act.put,List.getElem_cons_succ,List.getElem_cons_zero,List.setIfInBounds_toArray,List.set_cons_zero,List.set_cons_succ]
    refine ZD 7 (v:=?_) later_moves (by decide) (by kernel_rfl) (by kernel_rfl) (by kernel_rfl) (fun _ _ _ h=>h) (Z2 (by rfl) ?_) ?_;rotate_left;· ( intro w' hR;simp only [List.getElem_cons_succ,List.getElem_cons_zero];go_simp;try with_reducible rfl )
    simp only [Act.put,List.getElem_cons_succ,List.getElem_cons_zero,List.setIfInBounds_toArray,List.set_cons_zero,List.set_cons_succ]
    refine X4 (by kernel_rfl) ?_
    go_wp2
    go_roundw
    case rel =>
     refine ⟨j+1,by omega,by go_num,Za hbr.drew hb3,fun k hk h=>?_⟩
     rcases Nat.lt_or_ge k j with h5 | h5
     ·exact HB.out k h5 h
     ·have e:k=j:=by omega
      subst e
      exact HO.out
    case measure=>simp [intOf];omega
  ·go_wp2
   go_ret
   have e:j=rows.length:=by omega
   refine ⟨by rw [E.out,List.all_eq_true.2 (fun r hr=>by obtain ⟨k,hk,rfl⟩:=List.getElem_of_mem hr;exact HB.out k (by omega) hk)];rfl,Za hb1 hbr⟩
end Go.Proofs.YtdhhdplholkmdaaGreat
