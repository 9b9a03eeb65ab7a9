/- A part of the proof. No condition. -/
import Derived.Test.YtdhhdplholkmdaaGreatProg
import Derived.Test.YtdhhdplholkmdaaGreatPC6
import Derived.Test.YtdhhdplholkmdaaGreatPC4

namespace Go.Proofs.YtdhhdplholkmdaaGreat
open Go.RowKit
theorem YL {w w':World} {p:Addr} {v:Value} (hR:Yj w w') (h:w.cell? p=some v):w'.cell? p=some v:=(Below.cell hR (World.block_lt_of_cell? _ _ h)).trans h
def ZZ (p:Nat) (pub vars:Int) (rows:List Yb):Bool :=
 okP p&&!decide (pub<0)&&!decide (vars≤pub)&&!decide (65536<vars)&&!decide ((16384:Int)<(rows.length:Int))&&rows.all (Vb p vars)
set_option linter.unusedSimpArgs false in
set_option maxRecDepth 100000 in
set_option maxHeartbeats 4000000 in
theorem Yo (p:Nat) (pub vars:Int) (A:Option Addr) (n c:Nat) (rows:List Yb) (w:World) (hr:RSl 3 XI w [.slice A n c] rows) (hp:p<18446744073709551616) :
  Calls Tryz.prog 77 #[Yz p pub vars (.slice A n c)] w fun e w'=>e= .returned (.bool (ZZ p pub vars rows))∧Below w.heap.size w w':=by
 obtain ⟨A',n',c',he,hlen,hnc,hmx,hrd⟩:=hr
 simp at he
 obtain ⟨rfl,rfl,rfl⟩:=he
 subst hlen
 unfold Yz
 cases b1:okP p
 ·have E:=Lib.hid (show ZZ p pub vars rows=false by simp [ZZ,b1])
  have B1:=Lib.hid b1
  clear b1
  go_enter Tryz.func77,Tryz.ntmps77
  go_wp2_with (go_at_call 76;refine (Yk p _ hp).mono ?_;rintro e w1 ⟨rfl,hb⟩;rw [B1.out];have hB:=(Blk.new w _ _).below hb (by simp);have hb1:Below w.heap.size w w1:=Za ((Below.refl _ w).alloc (Nat.le_refl _) _) hb;have t1:w1.cell? ⟨w.heap.size,1,none⟩=some (.int .i64 pub):=hB.cell 1;have t2:w1.cell? ⟨w.heap.size,2,none⟩=some (.int .i64 vars):=hB.cell 2;have t3:w1.cell? ⟨w.heap.size,3,none⟩=some (.slice A rows.length c):=hB.cell 3;clear hb)
  go_ret
  exact ⟨by rw [E.out];rfl,hb1⟩
 have B1:=Lib.hid b1
 by_cases z1:pub<0
 ·have E:=Lib.hid (show ZZ p pub vars rows=false by unfold ZZ;rw [decide_eq_true z1];simp)
  have d1:=decide_eq_true z1
  clear b1
  go_enter Tryz.func77,Tryz.ntmps77
  go_wp2_with (go_at_call 76;refine (Yk p _ hp).mono ?_;rintro e w1 ⟨rfl,hb⟩;rw [B1.out];have hB:=(Blk.new w _ _).below hb (by simp);have hb1:Below w.heap.size w w1:=Za ((Below.refl _ w).alloc (Nat.le_refl _) _) hb;have t1:w1.cell? ⟨w.heap.size,1,none⟩=some (.int .i64 pub):=hB.cell 1;have t2:w1.cell? ⟨w.heap.size,2,none⟩=some (.int .i64 vars):=hB.cell 2;have t3:w1.cell? ⟨w.heap.size,3,none⟩=some (.slice A rows.length c):=hB.cell 3;clear hb)
  go_ret
  exact ⟨by rw [E.out];rfl,hb1⟩
 have d1:=decide_eq_false z1
 by_cases z2:vars≤pub
 ·have E:=Lib.hid (show ZZ p pub vars rows=false by unfold ZZ;rw [decide_eq_true z2];simp)
  have d2:=decide_eq_true z2
  clear b1
  go_enter Tryz.func77,Tryz.ntmps77
  go_wp2_with (go_at_call 76;refine (Yk p _ hp).mono ?_;rintro e w1 ⟨rfl,hb⟩;rw [B1.out];have hB:=(Blk.new w _ _).below hb (by simp);have hb1:Below w.heap.size w w1:=Za ((Below.refl _ w).alloc (Nat.le_refl _) _) hb;have t1:w1.cell? ⟨w.heap.size,1,none⟩=some (.int .i64 pub):=hB.cell 1;have t2:w1.cell? ⟨w.heap.size,2,none⟩=some (.int .i64 vars):=hB.cell 2;have t3:w1.cell? ⟨w.heap.size,3,none⟩=some (.slice A rows.length c):=hB.cell 3;clear hb)
  go_ret
  exact ⟨by rw [E.out];rfl,hb1⟩
 have d2:=decide_eq_false z2
 by_cases z3:65536<vars
 ·have E:=Lib.hid (show ZZ p pub vars rows=false by unfold ZZ;rw [decide_eq_true z3];simp)
  have d3:=decide_eq_true z3
  clear b1
  go_enter Tryz.func77,Tryz.ntmps77
  go_wp2_with (go_at_call 76;refine (Yk p _ hp).mono ?_;rintro e w1 ⟨rfl,hb⟩;rw [B1.out];have hB:=(Blk.new w _ _).below hb (by simp);have hb1:Below w.heap.size w w1:=Za ((Below.refl _ w).alloc (Nat.le_refl _) _) hb;have t1:w1.cell? ⟨w.heap.size,1,none⟩=some (.int .i64 pub):=hB.cell 1;have t2:w1.cell? ⟨w.heap.size,2,none⟩=some (.int .i64 vars):=hB.cell 2;have t3:w1.cell? ⟨w.heap.size,3,none⟩=some (.slice A rows.length c):=hB.cell 3;clear hb)
  go_ret
  exact ⟨by rw [E.out];rfl,hb1⟩
 have d3:=decide_eq_false z3
 by_cases z4:(16384:Int)<(rows.length:Int)
 ·have E:=Lib.hid (show ZZ p pub vars rows=false by unfold ZZ;rw [decide_eq_true z4];simp)
  have d4:=decide_eq_true z4
  clear b1
  go_enter Tryz.func77,Tryz.ntmps77
  go_wp2_with (go_at_call 76;refine (Yk p _ hp).mono ?_;rintro e w1 ⟨rfl,hb⟩;rw [B1.out];have hB:=(Blk.new w _ _).below hb (by simp);have hb1:Below w.heap.size w w1:=Za ((Below.refl _ w).alloc (Nat.le_refl _) _) hb;have t1:w1.cell? ⟨w.heap.size,1,none⟩=some (.int .i64 pub):=hB.cell 1;have t2:w1.cell? ⟨w.heap.size,2,none⟩=some (.int .i64 vars):=hB.cell 2;have t3:w1.cell? ⟨w.heap.size,3,none⟩=some (.slice A rows.length c):=hB.cell 3;clear hb)
  go_ret
  exact ⟨by rw [E.out];rfl,hb1⟩
 have d4:=decide_eq_false z4
 have E:=Lib.hid (show ZZ p pub vars rows=rows.all (Vb p vars) by unfold ZZ;rw [b1,d1,d2,d3,d4];simp)
 clear b1
 go_enter Tryz.func77,Tryz.ntmps77
 go_wp2_with (go_at_call 76;refine (Yk p _ hp).mono ?_;rintro e w1 ⟨rfl,hb⟩;rw [B1.out];have hB:=(Blk.new w _ _).below hb (by simp);have hb1:Below w.heap.size w w1:=Za ((Below.refl _ w).alloc (Nat.le_refl _) _) hb;have t1:w1.cell? ⟨w.heap.size,1,none⟩=some (.int .i64 pub):=hB.cell 1;have t2:w1.cell? ⟨w.heap.size,2,none⟩=some (.int .i64 vars):=hB.cell 2;have t3:w1.cell? ⟨w.heap.size,3,none⟩=some (.slice A rows.length c):=hB.cell 3;clear hb)
 go_loopw [3] (fun i wr=>∃ j:Nat,j≤rows.length∧i= .int .i64 (j:Int)∧Below w1.heap.size w1 wr∧Hid (∀ k<j,∀ h:k<rows.length,Vb p vars rows[k]=true))
  (fun i _=>rows.length-(intOf i).toNat)
 case atStart=>exact ⟨0,Nat.zero_le _,rfl,Below.refl _ _,fun k hk=>by omega⟩
 case round =>
  obtain ⟨j,hj,rfl,hbr,HB⟩:=hrel
  have s3:wr.cell? ⟨w.heap.size,3,none⟩=some (.slice A rows.length c):=(hB.below hbr hB.lt).cell 3
  by_cases hlt:j<rows.length
  ·have hBr:Blk wr.drew w.heap.size 25 _:=hB.below hbr.drew hB.lt
   have hbw:Below w.heap.size w wr.drew:=Za hb1 hbr.drew
   obtain ⟨b,q,rfl⟩:=hrd.base (by omega) (by omega)
   obtain ⟨cs,-,hc,x,y,z,rfl,hx1,hy1,hz1⟩:=(hrd.below ZG hbw).get hlt
   have h0:wr.drew.cell? ⟨b,q+j*3,none⟩=some x:=hc 0 (by omega)
   have h1:wr.drew.cell? ⟨b,q+j*3+1,none⟩=some y:=hc 1 (by omega)
   have h2:wr.drew.cell? ⟨b,q+j*3+2,none⟩=some z:=hc 2 (by omega)
   have HL:=Lib.hid hlt
   have i1:(0:Int)≤(j:Int):=by omega
   have i2:(j:Int)<(rows.length:Int):=by omega
   clear hc
   cases bo:Vb p vars rows[j]
   ·have HO:=Lib.hid bo
    clear bo
    go_wp2_with fail
    refine Jp Yj (by kernel_rfl) ?_
    refine YA 0 (v:=Yz p pub vars (.slice (some ⟨b,q,none⟩) rows.length c)) later_moves (by decide) (by kernel_rfl) (by kernel_rfl) (by kernel_rfl) (fun _ _ _ h=>h) (Xr (by rfl) ?_) ?_;· ( intro w' hR;simp only [List.getElem_cons_succ,List.getElem_cons_zero];unfold Yz;have q0:=(hBr.below hR hBr.lt).cell 0;have q1:=(hBr.below hR hBr.lt).cell 1;have q2:=(hBr.below hR hBr.lt).cell 2;have q3:=(hBr.below hR hBr.lt).cell 3;simp at q0 q1 q2 q3;go_simp )
    simp only [Act.put,List.getElem_cons_succ,List.getElem_cons_zero,List.setIfInBounds_toArray,List.set_cons_zero,List.set_cons_succ]
    refine YA 1 (v:=?_) later_moves (by decide) (by kernel_rfl) (by kernel_rfl) (by kernel_rfl) (fun _ _ _ h=>h) (Xr (by rfl) ?_) ?_;rotate_left;· ( intro w' hR;simp only [List.getElem_cons_succ,List.getElem_cons_zero];go_simp;try with_reducible rfl )
    simp only [Act.put,List.getElem_cons_succ,List.getElem_cons_zero,List.setIfInBounds_toArray,List.set_cons_zero,List.set_cons_succ]
    refine YA 2 (v:=.slice (some ⟨b,q,none⟩) rows.length c) later_moves (by decide) (by kernel_rfl) (by kernel_rfl) (by kernel_rfl) (fun _ _ _ h=>h) (Xr (by rfl) ?_) ?_;· ( intro w' hR;simp only [List.getElem_cons_succ,List.getElem_cons_zero];have q3:=(hBr.below hR hBr.lt).cell 3;simp at q3;go_simp )
    simp only [Act.put,List.getElem_cons_succ,List.getElem_cons_zero,List.setIfInBounds_toArray,List.set_cons_zero,List.set_cons_succ]
    refine YA 3 (v:=?_) later_moves (by decide) (by kernel_rfl) (by kernel_rfl) (by kernel_rfl) (fun _ _ _ h=>h) (Xr (by rfl) ?_) ?_;rotate_left;· ( intro w' hR;simp only [List.getElem_cons_succ,List.getElem_cons_zero];go_simp;try with_reducible rfl )
    simp only [Act.put,List.getElem_cons_succ,List.getElem_cons_zero,List.setIfInBounds_toArray,List.set_cons_zero,List.set_cons_succ]
    refine YA 4 (v:=?_) later_moves (by decide) (by kernel_rfl) (by kernel_rfl) (by kernel_rfl) (fun _ _ _ h=>h) (Xr (by rfl) ?_) ?_;rotate_left;· ( intro w' hR;simp only [List.getElem_cons_succ,List.getElem_cons_zero];go_simp;try with_reducible rfl )
    simp only [Act.put,List.getElem_cons_succ,List.getElem_cons_zero,List.setIfInBounds_toArray,List.set_cons_zero,List.set_cons_succ]
    refine YA 5 (v:=.agg #[x,y,z]) later_moves (by decide) (by kernel_rfl) (by kernel_rfl) (by kernel_rfl) (fun _ _ _ h=>h) (Xr (by rfl) ?_) ?_;· ( intro w' hR;simp only [List.getElem_cons_succ,List.getElem_cons_zero];have r0:=YL hR h0;have r1:=YL hR h1;have r2:=YL hR h2;go_simp )
    simp only [Act.put,List.getElem_cons_succ,List.getElem_cons_zero,List.setIfInBounds_toArray,List.set_cons_zero,List.set_cons_succ]
    refine jK 6 later_moves (by decide) (by kernel_rfl) (by rfl) ((xC p pub vars (.slice (some ⟨b,q,none⟩) rows.length c) rows[j] x y z _ hx1 hy1 hz1 hp).mono ?_) (fun _=>by simp only [List.getElem_cons_succ,List.getElem_cons_zero];go_simp)
    rintro e w3 ⟨rfl,hb3⟩
    rw [HO.out]
    refine ⟨_,rfl,hb3,?_⟩
    simp only [Act.put,List.getElem_cons_succ,List.getElem_cons_zero,List.setIfInBounds_toArray,List.set_cons_zero,List.set_cons_succ]
    refine YA 7 (v:=?_) later_moves (by decide) (by kernel_rfl) (by kernel_rfl) (by kernel_rfl) (fun _ _ _ h=>h) (Xr (by rfl) ?_) ?_;rotate_left;· ( intro w' hR;simp only [List.getElem_cons_succ,List.getElem_cons_zero];go_simp;try with_reducible rfl )
    simp only [Act.put,List.getElem_cons_succ,List.getElem_cons_zero,List.setIfInBounds_toArray,List.set_cons_zero,List.set_cons_succ]
    refine GY (by kernel_rfl) ?_
    go_wp2
    go_ret
    refine ⟨by rw [E.out,List.all_eq_false.2 ⟨rows[j],List.getElem_mem HL.out,fun h=>Bool.noConfusion (HO.out.symm.trans h)⟩];rfl,Za hbw hb3⟩
   ·have HO:=Lib.hid bo
    clear bo
    go_wp2_with fail
    refine Jp Yj (by kernel_rfl) ?_
    refine YA 0 (v:=Yz p pub vars (.slice (some ⟨b,q,none⟩) rows.length c)) later_moves (by decide) (by kernel_rfl) (by kernel_rfl) (by kernel_rfl) (fun _ _ _ h=>h) (Xr (by rfl) ?_) ?_;· ( intro w' hR;simp only [List.getElem_cons_succ,List.getElem_cons_zero];unfold Yz;have q0:=(hBr.below hR hBr.lt).cell 0;have q1:=(hBr.below hR hBr.lt).cell 1;have q2:=(hBr.below hR hBr.lt).cell 2;have q3:=(hBr.below hR hBr.lt).cell 3;simp at q0 q1 q2 q3;go_simp )
    simp only [Act.put,List.getElem_cons_succ,List.getElem_cons_zero,List.setIfInBounds_toArray,List.set_cons_zero,List.set_cons_succ]
    refine YA 1 (v:=?_) later_moves (by decide) (by kernel_rfl) (by kernel_rfl) (by kernel_rfl) (fun _ _ _ h=>h) (Xr (by rfl) ?_) ?_;rotate_left;· ( intro w' hR;simp only [List.getElem_cons_succ,List.getElem_cons_zero];go_simp;try with_reducible rfl )
    simp only [Act.put,List.getElem_cons_succ,List.getElem_cons_zero,List.setIfInBounds_toArray,List.set_cons_zero,List.set_cons_succ]
    refine YA 2 (v:=.slice (some ⟨b,q,none⟩) rows.length c) later_moves (by decide) (by kernel_rfl) (by kernel_rfl) (by kernel_rfl) (fun _ _ _ h=>h) (Xr (by rfl) ?_) ?_;· ( intro w' hR;simp only [List.getElem_cons_succ,List.getElem_cons_zero];have q3:=(hBr.below hR hBr.lt).cell 3;simp at q3;go_simp )
    simp only [Act.put,List.getElem_cons_succ,List.getElem_cons_zero,List.setIfInBounds_toArray,List.set_cons_zero,List.set_cons_succ]
    refine YA 3 (v:=?_) later_moves (by decide) (by kernel_rfl) (by kernel_rfl) (by kernel_rfl) (fun _ _ _ h=>h) (Xr (by rfl) ?_) ?_;rotate_left;· ( intro w' hR;simp only [List.getElem_cons_succ,List.getElem_cons_zero];go_simp;try with_reducible rfl )
    simp only [Act.put,List.getElem_cons_succ,List.getElem_cons_zero,List.setIfInBounds_toArray,List.set_cons_zero,List.set_cons_succ]
    refine YA 4 (v:=?_) later_moves (by decide) (by kernel_rfl) (by kernel_rfl) (by kernel_rfl) (fun _ _ _ h=>h) (Xr (by rfl) ?_) ?_;rotate_left;· ( intro w' hR;simp only [List.getElem_cons_succ,List.getElem_cons_zero];go_simp;try with_reducible rfl )
    simp only [Act.put,List.getElem_cons_succ,List.getElem_cons_zero,List.setIfInBounds_toArray,List.set_cons_zero,List.set_cons_succ]
    refine YA 5 (v:=.agg #[x,y,z]) later_moves (by decide) (by kernel_rfl) (by kernel_rfl) (by kernel_rfl) (fun _ _ _ h=>h) (Xr (by rfl) ?_) ?_;· ( intro w' hR;simp only [List.getElem_cons_succ,List.getElem_cons_zero];have r0:=YL hR h0;have r1:=YL hR h1;have r2:=YL hR h2;go_simp )
    simp only [Act.put,List.getElem_cons_succ,List.getElem_cons_zero,List.setIfInBounds_toArray,List.set_cons_zero,List.set_cons_succ]
    refine jK 6 later_moves (by decide) (by kernel_rfl) (by rfl) ((xC p pub vars (.slice (some ⟨b,q,none⟩) rows.length c) rows[j] x y z _ hx1 hy1 hz1 hp).mono ?_) (fun _=>by simp only [List.getElem_cons_succ,List.getElem_cons_zero];go_simp)
    rintro e w3 ⟨rfl,hb3⟩
    rw [HO.out]
    refine ⟨_,rfl,hb3,?_⟩
    simp only [Act.put,List.getElem_cons_succ,List.getElem_cons_zero,List.setIfInBounds_toArray,List.set_cons_zero,List.set_cons_succ]
    refine YA 7 (v:=?_) later_moves (by decide) (by kernel_rfl) (by kernel_rfl) (by kernel_rfl) (fun _ _ _ h=>h) (Xr (by rfl) ?_) ?_;rotate_left;· ( intro w' hR;simp only [List.getElem_cons_succ,List.getElem_cons_zero];go_simp;try with_reducible rfl )
    simp only [Act.put,List.getElem_cons_succ,List.getElem_cons_zero,List.setIfInBounds_toArray,List.set_cons_zero,List.set_cons_succ]
    refine GY (by kernel_rfl) ?_
    go_wp2
    go_roundw
    case rel =>
     refine ⟨j+1,by omega,by go_num,Za hbr.drew hb3,fun k hk h=>?_⟩
     rcases Nat.lt_or_ge k j with h5 | h5
     ·exact HB.out k h5 h
     ·have e:k=j:=by omega
      subst e
      exact HO.out
    case measure=>simp [intOf];omega
  ·go_wp2
   go_ret
   have e:j=rows.length:=by omega
   refine ⟨by rw [E.out,List.all_eq_true.2 (fun r hr=>by obtain ⟨k,hk,rfl⟩:=List.getElem_of_mem hr;exact HB.out k (by omega) hk)];rfl,Za hb1 hbr⟩
def V5 (p:Nat) (vars:Int) (l:List Nat):Bool:=!((l.length:Int) != vars)&&!((l.length:Int) == 0)&&!(((l.getD 0 0:Nat):Int) != 1)&&l.all fun x=>decide (x<p)
theorem RWd.at_ {w:World} {A:Option Addr} {l:List Nat} (h:Rd w 1 A l.length (U64 l)) {i:Nat} (hi:i<l.length):∃ ad,A=some ad∧w.cell? (ad.add i)=some (.int .u64 ((l.getD i 0:Nat):Int)):=by
 obtain ⟨ad,u,rfl,hu,hc⟩:=h.at_ hi
 rw [G8 hi] at hu
 injection hu with hu
 subst hu
 exact ⟨ad,rfl,by simpa [hi] using hc⟩
set_option maxRecDepth 100000 in
set_option maxHeartbeats 4000000 in
theorem UU (p:Nat) (pub vars:Int) (T:Value) (A:Option Addr) (n c:Nat) (l:List Nat) (w:World) (hl:RWd w [.slice A n c] l) (_hp:p<18446744073709551616) :
  Calls Tryz.prog 39 #[Yz p pub vars T, .slice A n c] w fun e w'=>e= .returned (.bool (V5 p vars l))∧Below w.heap.size w w':=by
 obtain ⟨A',n',c',he,hnc,hmx,hrd,hlt⟩:=hl
 simp at he
 obtain ⟨rfl,rfl,rfl⟩:=he
 have hlen:=hrd.len1
 rw [UG] at hlen
 subst hlen
 unfold Yz
 have hb0:∀ o,Below w.heap.size w (w.alloc o):=fun o=>(Below.refl _ w).alloc (Nat.le_refl _) _
 by_cases z1:(l.length:Int)=vars
 ·subst z1
  rcases Nat.eq_zero_or_pos l.length with z2 | z2
  ·have E:=Lib.hid (show V5 p (l.length:Int) l=false by simp [V5,z2])
   rw [z2]
   rw [z2] at E
   go_enter Tryz.func39,Tryz.ntmps39
   go_wp2_with fail
   go_ret
   exact ⟨by rw [E.out];rfl,hb0 _⟩
  ·obtain ⟨ad,rfl,hc⟩:=RWd.at_ (hrd.below (hb0 (.cells #[.int .u64 (p:Int), .int .i64 pub, .int .i64 (l.length:Int),T] 25))) z2
   have g0:((l.length:Int) == 0)=false:=by rw [beq_eq_false_iff_ne];omega
   have g1:(0:Int)<(l.length:Int):=by omega
   have gm:(l.length:Int)≤9223372036854775807:=by
    have h3:=hnc
    have h4:=hmx
    simp [maxLen] at h4
    omega
   by_cases z3:l.getD 0 0=1
   ·have hc0:(w.alloc (.cells #[.int .u64 (p:Int), .int .i64 pub, .int .i64 (l.length:Int),T] 25)).cell? ad=some (.int .u64 1):=by
     rw [z3] at hc
     simpa [Addr.add] using hc
    have E:=Lib.hid (show V5 p (l.length:Int) l=l.all fun x=>decide (x<p) by unfold V5;rw [z3,g0];simp)
    clear hc z3
    go_enter Tryz.func39,Tryz.ntmps39
    go_wp2_with fail
    go_loopw [5] (fun i wr=>∃ j kk:Nat,j≤l.length∧i= .int .i64 (j:Int)∧wr=(w.alloc (.cells #[.int .u64 (p:Int), .int .i64 pub, .int .i64 (l.length:Int),T] 25)).drewN kk∧Hid (∀ k<j,l.getD k 0<p))
     (fun i _=>l.length-(intOf i).toNat)
    case atStart=>exact ⟨0,0,Nat.zero_le _,rfl,rfl,fun k hk=>by omega⟩
    case round =>
     obtain ⟨j,kk,hj,rfl,rfl,HB⟩:=hrel
     by_cases hjl:j<l.length
     ·obtain ⟨ad',he',hc⟩:=RWd.at_ (hrd.below (hb0 (.cells #[.int .u64 (p:Int), .int .i64 pub, .int .i64 (l.length:Int),T] 25))) hjl
      injection he' with he'
      subst he'
      have g2:(0:Int)≤(j:Int):=by omega
      have g3:(j:Int)<(l.length:Int):=by omega
      have HL:=Lib.hid hjl
      have HY:Hid (l.getD j 0=l.getD j 0):=rfl
      revert hc HY
      generalize hy:l.getD j 0=y
      intro hc _
      have HY:=Lib.hid hy
      clear hy
      by_cases z4:p≤y
      ·have d4:decide ((p:Int)≤(y:Int))=true:=decide_eq_true (by omega)
       have HZ:=Lib.hid z4
       clear hrd z4
       go_wp2_with fail
       go_quiet (fail)
       go_wp2
       go_ret
       have HA:(l.all fun x=>decide (x<p))=false:=by
        refine List.all_eq_false.2 ⟨l[j]'HL.out,List.getElem_mem HL.out,?_⟩
        have h1:=HY.out
        have h2:=HZ.out
        simp [HL.out] at h1
        simp [h1]
        omega
       exact ⟨by rw [E.out,HA];rfl,below_drewN (below_drewN (hb0 _) _) _⟩
      ·have d4:decide ((p:Int)≤(y:Int))=false:=decide_eq_false (by omega)
       have HZ:=Lib.hid z4
       clear hrd z4
       go_wp2_with fail
       go_quiet (fail)
       go_wp2
       go_roundw
       case rel =>
        refine ⟨j+1,_,by omega,by go_num,rfl,fun k hk=>?_⟩
        rcases Nat.lt_or_ge k j with h5 | h5
        ·exact HB.out k h5
        ·have e:k=j:=by omega
         subst e
         have h1:=HY.out
         have h2:=HZ.out
         omega
       case measure=>simp [intOf];omega
     ·go_wp2
      go_ret
      have e:j=l.length:=by omega
      have HA:(l.all fun x=>decide (x<p))=true:=by
       refine List.all_eq_true.2 ?_
       intro x hx
       obtain ⟨k,hk,rfl⟩:=List.getElem_of_mem hx
       have:=HB.out k (by omega)
       simpa [hk] using this
      exact ⟨by rw [E.out,HA];rfl,below_drewN (hb0 _) _⟩
   ·have hc0:(w.alloc (.cells #[.int .u64 (p:Int), .int .i64 pub, .int .i64 (l.length:Int),T] 25)).cell? ad=some (.int .u64 ((l.getD 0 0:Nat):Int)):=by simpa [Addr.add] using hc
    have d3:(((l.getD 0 0:Nat):Int) != 1)=true:=by rw [bne_iff_ne];omega
    have E:=Lib.hid (show V5 p (l.length:Int) l=false by unfold V5;rw [d3];simp)
    clear hc z3
    revert hc0 d3
    generalize l.getD 0 0=y
    intro hc0 d3
    go_enter Tryz.func39,Tryz.ntmps39
    go_wp2_with fail
    go_ret
    exact ⟨by rw [E.out];rfl,hb0 _⟩
 ·have d1:((l.length:Int) != vars)=true:=by rw [bne_iff_ne];exact z1
  have E:=Lib.hid (show V5 p vars l=false by simp [V5,z1])
  go_enter Tryz.func39,Tryz.ntmps39
  go_wp2_with fail
  go_ret
  exact ⟨by rw [E.out];rfl,hb0 _⟩
theorem Ja (n k:Nat) (w:World) (hn:n≤1000000000) (hk:0<k) (hk2:k≤1000000000) :
  Calls Tryz.prog 93 #[.int .i64 (n:Int), .int .i64 (k:Int)] w fun e w'=>e= .returned (.int .i64 (((n+k-1) / k:Nat):Int))∧w'=w:=by
 obtain ⟨m,rfl⟩:∃ m,k=m+1:=⟨k-1,by omega⟩
 have e1:Hid (((n+(m+1)-1) / (m+1):Nat)=(n+m) / (m+1)):=rfl
 go_enter Tryz.func93,Tryz.ntmps93
 go_wp2_with fail
 go_ret
 refine ⟨?_,rfl⟩
 show Ending.returned (.int .i64 (((n:Int)+((m:Int)+1)-1) / ((m:Int)+1)))=_
 rw [show (n:Int)+((m:Int)+1)-1=((n+(m+1)-1:Nat):Int) from by omega]
 rfl
end Go.Proofs.YtdhhdplholkmdaaGreat
