/- A part of the proof. No condition. -/
import Derived.Test.YtjipleoamlmkfaaGreatProg
import Derived.Test.YtjipleoamlmkfaaGreatPF6
import Derived.Test.YtjipleoamlmkfaaGreatPF9

set_option maxRecDepth 100000
set_option maxHeartbeats 8000000
set_option linter.unusedVariables false
set_option linter.unusedSimpArgs false
namespace Go.Proofs.YtjipleoamlmkfaaGreat
open Go.RowKit
theorem Ul {w w':World} {p:Addr} {v:Value} (hR:Bb w w') (h:w.cell? p=some v):w'.cell? p=some v:=(Below.cell hR (World.block_lt_of_cell? _ _ h)).trans h
def Gb (p:Nat) (pub vars:Int) (rows:List Ya):Bool :=
 Db p&&!decide (pub<0)&&!decide (vars <= pub)&&!decide (65536<vars)&&!decide ((16384:Int)<(rows.length:Int))&&rows.all (qh p vars)
theorem Fz (p:Nat) (pub vars:Int) (A:Option Addr) (n c:Nat) (rows:List Ya) (w:World) (hr:RSl 3 Md w [.slice A n c] rows) (hp:p<18446744073709551616) :
  Calls Tryz.prog 82 #[Ib p pub vars (.slice A n c)] w fun e w'=>e= .returned (.bool (Gb p pub vars rows)) /\ Below w.heap.size w w':=by
 obtain ⟨A',n',c',he,hlen,Sc,Gd,za⟩:=hr;simp at he
 obtain ⟨rfl,rfl,rfl⟩:=he;subst hlen;unfold Ib;cases b1:Db p
 ·have E:=zH (show Gb p pub vars rows=false by simp [Gb,b1])
  have B1:=zH b1;clear b1;go_enter Tryz.func82,Tryz.ntmps82
  go_wp2_with (go_at_call 149;refine (Tk p _ hp).mono ?_;rintro e w1 ⟨rfl,hb⟩;rw [B1.out];have hB:=(Blk.new w _ _).below hb (by simp);have ya:Below w.heap.size w w1:=ja ((Below.refl _ w).alloc zR _) hb;have t1:w1.cell? ⟨w.heap.size,1,none⟩=some (.int .i64 pub):=hB.cell 1;have t2:w1.cell? ⟨w.heap.size,2,none⟩=some (.int .i64 vars):=hB.cell 2;have t3:w1.cell? ⟨w.heap.size,3,none⟩=some (.slice A rows.length c):=hB.cell 3;clear hb)
  go_ret
  exact ⟨by rw [E.out];rfl,ya⟩
 have B1:=zH b1;by_cases z1:pub<0
 ·have E:=zH (show Gb p pub vars rows=false by unfold Gb;rw [decide_eq_true z1];simp)
  have d1:=decide_eq_true z1;clear b1;go_enter Tryz.func82,Tryz.ntmps82
  go_wp2_with (go_at_call 149;refine (Tk p _ hp).mono ?_;rintro e w1 ⟨rfl,hb⟩;rw [B1.out];have hB:=(Blk.new w _ _).below hb (by simp);have ya:Below w.heap.size w w1:=ja ((Below.refl _ w).alloc zR _) hb;have t1:w1.cell? ⟨w.heap.size,1,none⟩=some (.int .i64 pub):=hB.cell 1;have t2:w1.cell? ⟨w.heap.size,2,none⟩=some (.int .i64 vars):=hB.cell 2;have t3:w1.cell? ⟨w.heap.size,3,none⟩=some (.slice A rows.length c):=hB.cell 3;clear hb)
  go_ret
  exact ⟨by rw [E.out];rfl,ya⟩
 have d1:=decide_eq_false z1;by_cases z2:vars <= pub
 ·have E:=zH (show Gb p pub vars rows=false by unfold Gb;rw [decide_eq_true z2];simp)
  have d2:=decide_eq_true z2;clear b1;go_enter Tryz.func82,Tryz.ntmps82
  go_wp2_with (go_at_call 149;refine (Tk p _ hp).mono ?_;rintro e w1 ⟨rfl,hb⟩;rw [B1.out];have hB:=(Blk.new w _ _).below hb (by simp);have ya:Below w.heap.size w w1:=ja ((Below.refl _ w).alloc zR _) hb;have t1:w1.cell? ⟨w.heap.size,1,none⟩=some (.int .i64 pub):=hB.cell 1;have t2:w1.cell? ⟨w.heap.size,2,none⟩=some (.int .i64 vars):=hB.cell 2;have t3:w1.cell? ⟨w.heap.size,3,none⟩=some (.slice A rows.length c):=hB.cell 3;clear hb)
  go_ret
  exact ⟨by rw [E.out];rfl,ya⟩
 have d2:=decide_eq_false z2;by_cases z3:65536<vars
 ·have E:=zH (show Gb p pub vars rows=false by unfold Gb;rw [decide_eq_true z3];simp)
  have d3:=decide_eq_true z3;clear b1;go_enter Tryz.func82,Tryz.ntmps82
  go_wp2_with (go_at_call 149;refine (Tk p _ hp).mono ?_;rintro e w1 ⟨rfl,hb⟩;rw [B1.out];have hB:=(Blk.new w _ _).below hb (by simp);have ya:Below w.heap.size w w1:=ja ((Below.refl _ w).alloc zR _) hb;have t1:w1.cell? ⟨w.heap.size,1,none⟩=some (.int .i64 pub):=hB.cell 1;have t2:w1.cell? ⟨w.heap.size,2,none⟩=some (.int .i64 vars):=hB.cell 2;have t3:w1.cell? ⟨w.heap.size,3,none⟩=some (.slice A rows.length c):=hB.cell 3;clear hb)
  go_ret
  exact ⟨by rw [E.out];rfl,ya⟩
 have d3:=decide_eq_false z3;by_cases z4:(16384:Int)<(rows.length:Int)
 ·have E:=zH (show Gb p pub vars rows=false by unfold Gb;rw [decide_eq_true z4];simp)
  have d4:=decide_eq_true z4;clear b1;go_enter Tryz.func82,Tryz.ntmps82
  go_wp2_with (go_at_call 149;refine (Tk p _ hp).mono ?_;rintro e w1 ⟨rfl,hb⟩;rw [B1.out];have hB:=(Blk.new w _ _).below hb (by simp);have ya:Below w.heap.size w w1:=ja ((Below.refl _ w).alloc zR _) hb;have t1:w1.cell? ⟨w.heap.size,1,none⟩=some (.int .i64 pub):=hB.cell 1;have t2:w1.cell? ⟨w.heap.size,2,none⟩=some (.int .i64 vars):=hB.cell 2;have t3:w1.cell? ⟨w.heap.size,3,none⟩=some (.slice A rows.length c):=hB.cell 3;clear hb)
  go_ret
  exact ⟨by rw [E.out];rfl,ya⟩
 have d4:=decide_eq_false z4;have E:=zH (show Gb p pub vars rows=rows.all (qh p vars) by unfold Gb;rw [b1,d1,d2,d3,d4];simp)
 clear b1;go_enter Tryz.func82,Tryz.ntmps82
 go_wp2_with (go_at_call 149;refine (Tk p _ hp).mono ?_;rintro e w1 ⟨rfl,hb⟩;rw [B1.out];have hB:=(Blk.new w _ _).below hb (by simp);have ya:Below w.heap.size w w1:=ja ((Below.refl _ w).alloc zR _) hb;have t1:w1.cell? ⟨w.heap.size,1,none⟩=some (.int .i64 pub):=hB.cell 1;have t2:w1.cell? ⟨w.heap.size,2,none⟩=some (.int .i64 vars):=hB.cell 2;have t3:w1.cell? ⟨w.heap.size,3,none⟩=some (.slice A rows.length c):=hB.cell 3;clear hb)
 go_loopw [3] (fun i wr=>∃ j:Nat,j <= rows.length /\ i= .int .i64 j /\ Below w1.heap.size w1 wr /\ Hid (∀ k<j,∀ h:k<rows.length,qh p vars rows[k]=true))
  (fun i _=>rows.length-(intOf i).toNat)
 case atStart=>exact ⟨0,Nat.zero_le _,rfl,Below.refl _ _,fun k hk=>by omega⟩
 case round =>
  obtain ⟨j,hj,rfl,Qa,HB⟩:=hrel;have s3:wr.cell? ⟨w.heap.size,3,none⟩=some (.slice A rows.length c):=(ea hB Qa).cell 3;by_cases oa:j<rows.length
  ·have Qj:Blk wr.drew w.heap.size 25 _:=hB.below Qa.drew hB.lt
   have Na:Below w.heap.size w wr.drew:=ja ya Qa.drew;obtain ⟨b,q,rfl⟩:=za.base (by omega) (by omega)
   obtain ⟨cs,-,hc,x,y,z,rfl,Ec,Vd,Zb⟩:=(za.below fq Na).get oa;have h0:wr.drew.cell? ⟨b,q+j*3,none⟩=some x:=hc 0 (by omega)
   have h1:wr.drew.cell? ⟨b,q+j*3+1,none⟩=some y:=hc 1 (by omega)
   have h2:wr.drew.cell? ⟨b,q+j*3+2,none⟩=some z:=hc 2 (by omega)
   have HL:=zH oa;have i1:(0:Int) <= (j:Int):=by omega
   have i2:(j:Int)<(rows.length:Int):=by omega
   clear hc;cases bo:qh p vars rows[j]
   ·have HO:=zH bo
    clear bo;go_wp2_with fail
    refine Nz Bb (by kernel_rfl) ?_
    refine Qg 0 (v:=Ib p pub vars (.slice (some ⟨b,q,none⟩) rows.length c)) pa (by decide) (by kernel_rfl) (by kernel_rfl) (by kernel_rfl) (fun _ _ _ h=>h) (pU (by rfl) ?_) ?_;· ( intro w' hR;simp only [List.getElem_cons_succ,List.getElem_cons_zero];unfold Ib;have q0:=(ea Qj hR).cell 0;have q1:=(ea Qj hR).cell 1;have q2:=(ea Qj hR).cell 2;have q3:=(ea Qj hR).cell 3;simp at q0 q1 q2 q3;go_simp )
    simp only [Act.put,List.getElem_cons_succ,List.getElem_cons_zero,List.setIfInBounds_toArray,List.set_cons_zero,List.set_cons_succ];refine Qg 1 (v:=?_) pa (by decide) (by kernel_rfl) (by kernel_rfl) (by kernel_rfl) (fun _ _ _ h=>h) (pU (by rfl) ?_) ?_;rotate_left;· ( intro w' hR;simp only [List.getElem_cons_succ,List.getElem_cons_zero];go_simp;try with_reducible rfl )
    simp only [Act.put,List.getElem_cons_succ,List.getElem_cons_zero,List.setIfInBounds_toArray,List.set_cons_zero,List.set_cons_succ];refine Qg 2 (v:=.slice (some ⟨b,q,none⟩) rows.length c) pa (by decide) (by kernel_rfl) (by kernel_rfl) (by kernel_rfl) (fun _ _ _ h=>h) (pU (by rfl) ?_) ?_;· ( intro w' hR;simp only [List.getElem_cons_succ,List.getElem_cons_zero];have q3:=(ea Qj hR).cell 3;simp at q3;go_simp )
    simp only [Act.put,List.getElem_cons_succ,List.getElem_cons_zero,List.setIfInBounds_toArray,List.set_cons_zero,List.set_cons_succ];refine Qg 3 (v:=?_) pa (by decide) (by kernel_rfl) (by kernel_rfl) (by kernel_rfl) (fun _ _ _ h=>h) (pU (by rfl) ?_) ?_;rotate_left;· ( intro w' hR;simp only [List.getElem_cons_succ,List.getElem_cons_zero];go_simp;try with_reducible rfl )
    simp only [Act.put,List.getElem_cons_succ,List.getElem_cons_zero,List.setIfInBounds_toArray,List.set_cons_zero,List.set_cons_succ];refine Qg 4 (v:=?_) pa (by decide) (by kernel_rfl) (by kernel_rfl) (by kernel_rfl) (fun _ _ _ h=>h) (pU (by rfl) ?_) ?_;rotate_left;· ( intro w' hR;simp only [List.getElem_cons_succ,List.getElem_cons_zero];go_simp;try with_reducible rfl )
    simp only [Act.put,List.getElem_cons_succ,List.getElem_cons_zero,List.setIfInBounds_toArray,List.set_cons_zero,List.set_cons_succ];refine Qg 5 (v:=.agg #[x,y,z]) pa (by decide) (by kernel_rfl) (by kernel_rfl) (by kernel_rfl) (fun _ _ _ h=>h) (pU (by rfl) ?_) ?_;· ( intro w' hR;simp only [List.getElem_cons_succ,List.getElem_cons_zero];have r0:=Ul hR h0;have r1:=Ul hR h1;have r2:=Ul hR h2;go_simp )
    simp only [Act.put,List.getElem_cons_succ,List.getElem_cons_zero,List.setIfInBounds_toArray,List.set_cons_zero,List.set_cons_succ];refine TK 6 pa (by decide) (by kernel_rfl) (by rfl) ((TJ p pub vars (.slice (some ⟨b,q,none⟩) rows.length c) rows[j] x y z _ Ec Vd Zb hp).mono ?_) (fun _=>by simp only [List.getElem_cons_succ,List.getElem_cons_zero];go_simp)
    rintro e w3 ⟨rfl,Ga⟩;rw [HO.out];refine ⟨_,rfl,Ga,?_⟩;simp only [Act.put,List.getElem_cons_succ,List.getElem_cons_zero,List.setIfInBounds_toArray,List.set_cons_zero,List.set_cons_succ];refine Qg 7 (v:=?_) pa (by decide) (by kernel_rfl) (by kernel_rfl) (by kernel_rfl) (fun _ _ _ h=>h) (pU (by rfl) ?_) ?_;rotate_left;· ( intro w' hR;simp only [List.getElem_cons_succ,List.getElem_cons_zero];go_simp;try with_reducible rfl )
    simp only [Act.put,List.getElem_cons_succ,List.getElem_cons_zero,List.setIfInBounds_toArray,List.set_cons_zero,List.set_cons_succ];refine UF (by kernel_rfl) ?_
    go_wp2;go_ret
    refine ⟨by rw [E.out,List.all_eq_false.2 ⟨rows[j],List.getElem_mem HL.out,fun h=>Bool.noConfusion (HO.out.symm.trans h)⟩];rfl,ja Na Ga⟩
   ·have HO:=zH bo
    clear bo;go_wp2_with fail
    refine Nz Bb (by kernel_rfl) ?_
    refine Qg 0 (v:=Ib p pub vars (.slice (some ⟨b,q,none⟩) rows.length c)) pa (by decide) (by kernel_rfl) (by kernel_rfl) (by kernel_rfl) (fun _ _ _ h=>h) (pU (by rfl) ?_) ?_;· ( intro w' hR;simp only [List.getElem_cons_succ,List.getElem_cons_zero];unfold Ib;have q0:=(ea Qj hR).cell 0;have q1:=(ea Qj hR).cell 1;have q2:=(ea Qj hR).cell 2;have q3:=(ea Qj hR).cell 3;simp at q0 q1 q2 q3;go_simp )
    simp only [Act.put,List.getElem_cons_succ,List.getElem_cons_zero,List.setIfInBounds_toArray,List.set_cons_zero,List.set_cons_succ];refine Qg 1 (v:=?_) pa (by decide) (by kernel_rfl) (by kernel_rfl) (by kernel_rfl) (fun _ _ _ h=>h) (pU (by rfl) ?_) ?_;rotate_left;· ( intro w' hR;simp only [List.getElem_cons_succ,List.getElem_cons_zero];go_simp;try with_reducible rfl )
    simp only [Act.put,List.getElem_cons_succ,List.getElem_cons_zero,List.setIfInBounds_toArray,List.set_cons_zero,List.set_cons_succ];refine Qg 2 (v:=.slice (some ⟨b,q,none⟩) rows.length c) pa (by decide) (by kernel_rfl) (by kernel_rfl) (by kernel_rfl) (fun _ _ _ h=>h) (pU (by rfl) ?_) ?_;· ( intro w' hR;simp only [List.getElem_cons_succ,List.getElem_cons_zero];have q3:=(ea Qj hR).cell 3;simp at q3;go_simp )
    simp only [Act.put,List.getElem_cons_succ,List.getElem_cons_zero,List.setIfInBounds_toArray,List.set_cons_zero,List.set_cons_succ];refine Qg 3 (v:=?_) pa (by decide) (by kernel_rfl) (by kernel_rfl) (by kernel_rfl) (fun _ _ _ h=>h) (pU (by rfl) ?_) ?_;rotate_left;· ( intro w' hR;simp only [List.getElem_cons_succ,List.getElem_cons_zero];go_simp;try with_reducible rfl )
    simp only [Act.put,List.getElem_cons_succ,List.getElem_cons_zero,List.setIfInBounds_toArray,List.set_cons_zero,List.set_cons_succ];refine Qg 4 (v:=?_) pa (by decide) (by kernel_rfl) (by kernel_rfl) (by kernel_rfl) (fun _ _ _ h=>h) (pU (by rfl) ?_) ?_;rotate_left;· ( intro w' hR;simp only [List.getElem_cons_succ,List.getElem_cons_zero];go_simp;try with_reducible rfl )
    simp only [Act.put,List.getElem_cons_succ,List.getElem_cons_zero,List.setIfInBounds_toArray,List.set_cons_zero,List.set_cons_succ];refine Qg 5 (v:=.agg #[x,y,z]) pa (by decide) (by kernel_rfl) (by kernel_rfl) (by kernel_rfl) (fun _ _ _ h=>h) (pU (by rfl) ?_) ?_;· ( intro w' hR;simp only [List.getElem_cons_succ,List.getElem_cons_zero];have r0:=Ul hR h0;have r1:=Ul hR h1;have r2:=Ul hR h2;go_simp )
    simp only [Act.put,List.getElem_cons_succ,List.getElem_cons_zero,List.setIfInBounds_toArray,List.set_cons_zero,List.set_cons_succ];refine TK 6 pa (by decide) (by kernel_rfl) (by rfl) ((TJ p pub vars (.slice (some ⟨b,q,none⟩) rows.length c) rows[j] x y z _ Ec Vd Zb hp).mono ?_) (fun _=>by simp only [List.getElem_cons_succ,List.getElem_cons_zero];go_simp)
    rintro e w3 ⟨rfl,Ga⟩;rw [HO.out];refine ⟨_,rfl,Ga,?_⟩;simp only [Act.put,List.getElem_cons_succ,List.getElem_cons_zero,List.setIfInBounds_toArray,List.set_cons_zero,List.set_cons_succ];refine Qg 7 (v:=?_) pa (by decide) (by kernel_rfl) (by kernel_rfl) (by kernel_rfl) (fun _ _ _ h=>h) (pU (by rfl) ?_) ?_;rotate_left;· ( intro w' hR;simp only [List.getElem_cons_succ,List.getElem_cons_zero];go_simp;try with_reducible rfl )
    simp only [Act.put,List.getElem_cons_succ,List.getElem_cons_zero,List.setIfInBounds_toArray,List.set_cons_zero,List.set_cons_succ];refine UF (by kernel_rfl) ?_
    go_wp2
    go_roundw
    case rel =>
     refine ⟨j+1,by omega,by go_num,ja Qa.drew Ga,fun k hk h=>?_⟩
     rcases Nat.lt_or_ge k j with h5 | h5
     ·exact HB.out k h5 h
     ·have e:k=j:=by omega
      subst e;exact HO.out
    case measure=>simp [intOf];omega
  ·go_wp2
   go_ret
   have e:j=rows.length:=by omega
   refine ⟨by rw [E.out,List.all_eq_true.2 (fun r hr=>by obtain ⟨k,hk,rfl⟩:=List.getElem_of_mem hr;exact HB.out k (by omega) hk)];rfl,ja ya Qa⟩
def De (p:Nat) (vars:Int) (l:List Nat):Bool:=!((l.length:Int) != vars)&&!((l.length:Int) == 0)&&!(((l.getD 0 0:Nat):Int) != 1)&&l.all fun x=>decide (x<p)
theorem RWd.at_ {w:World} {A:Option Addr} {l:List Nat} (h:Rd w 1 A l.length (Ca l)) {i:Nat} (hi:i<l.length):∃ ad,A=some ad /\ w.cell? (ad.add i)=some (.int .u64 ((l.getD i 0:Nat):Int)):=by
 obtain ⟨ad,u,rfl,hu,hc⟩:=h.at_ hi;rw [jv hi] at hu
 injection hu with hu
 subst hu;exact ⟨ad,rfl,by simpa [hi] using hc⟩
theorem dF (p:Nat) (pub vars:Int) (T:Value) (A:Option Addr) (n c:Nat) (l:List Nat) (w:World) (hl:RWd w [.slice A n c] l) (_hp:p<18446744073709551616) :
  Calls Tryz.prog 83 #[Ib p pub vars T, .slice A n c] w fun e w'=>e= .returned (.bool (De p vars l)) /\ Below w.heap.size w w':=by
 obtain ⟨A',n',c',he,Sc,Gd,za,oa⟩:=hl;simp at he
 obtain ⟨rfl,rfl,rfl⟩:=he;have hlen:=za.len1;rw [Gi] at hlen;subst hlen;unfold Ib;have aa:∀ o,Below w.heap.size w (w.alloc o):=fun o=>(Below.refl _ w).alloc zR _
 by_cases z1:(l.length:Int)=vars
 ·subst z1
  rcases Nat.eq_zero_or_pos l.length with z2 | z2
  ·have E:=zH (show De p (l.length:Int) l=false by simp [De,z2])
   rw [z2];rw [z2] at E;go_enter Tryz.func83,Tryz.ntmps83
   go_wp2_with fail
   go_ret
   exact ⟨by rw [E.out];rfl,aa _⟩
  ·obtain ⟨ad,rfl,hc⟩:=RWd.at_ (za.below (aa (.cells #[.int .u64 p, .int .i64 pub, .int .i64 l.length,T] 25))) z2
   have g0:((l.length:Int) == 0)=false:=by rw [beq_eq_false_iff_ne];omega
   have g1:(0:Int)<(l.length:Int):=by omega
   have gm:(l.length:Int) <= 9223372036854775807:=by
    have h3:=Sc;have h4:=Gd;simp [maxLen] at h4
    omega
   by_cases z3:l.getD 0 0=1
   ·have aj:(w.alloc (.cells #[.int .u64 p, .int .i64 pub, .int .i64 l.length,T] 25)).cell? ad=some (.int .u64 1):=by
     rw [z3] at hc
     simpa [Addr.add] using hc
    have E:=zH (show De p (l.length:Int) l=l.all fun x=>decide (x<p) by unfold De;rw [z3,g0];simp)
    clear hc z3;go_enter Tryz.func83,Tryz.ntmps83
    go_wp2_with fail
    go_loopw [5] (fun i wr=>∃ j kk:Nat,j <= l.length /\ i= .int .i64 j /\ wr=(w.alloc (.cells #[.int .u64 p, .int .i64 pub, .int .i64 l.length,T] 25)).drewN kk /\ Hid (∀ k<j,l.getD k 0<p))
     (fun i _=>l.length-(intOf i).toNat)
    case atStart=>exact ⟨0,0,Nat.zero_le _,rfl,rfl,fun k hk=>by omega⟩
    case round =>
     obtain ⟨j,kk,hj,rfl,rfl,HB⟩:=hrel;by_cases Il:j<l.length
     ·obtain ⟨ad',he',hc⟩:=RWd.at_ (za.below (aa (.cells #[.int .u64 p, .int .i64 pub, .int .i64 l.length,T] 25))) Il
      injection he' with he'
      subst he';have g2:(0:Int) <= (j:Int):=by omega
      have g3:(j:Int)<(l.length:Int):=by omega
      have HL:=zH Il;have HY:Hid (l.getD j 0=l.getD j 0):=rfl;revert hc HY
      generalize hy:l.getD j 0=y;intro hc _;have HY:=zH hy;clear hy;by_cases z4:p <= y
      ·have d4:decide ((p:Int) <= (y:Int))=true:=decide_eq_true (by omega)
       have HZ:=zH z4;clear za z4;go_wp2_with fail
       go_quiet (fail)
       go_wp2;go_ret
       have HA:(l.all fun x=>decide (x<p))=false:=by
        refine List.all_eq_false.2 ⟨l[j]'HL.out,List.getElem_mem HL.out,?_⟩;have h1:=HY.out;have h2:=HZ.out;simp [HL.out] at h1
        simp [h1]
        omega
       exact ⟨by rw [E.out,HA];rfl,below_drewN (below_drewN (aa _) _) _⟩
      ·have d4:decide ((p:Int) <= (y:Int))=false:=decide_eq_false (by omega)
       have HZ:=zH z4;clear za z4;go_wp2_with fail
       go_quiet (fail)
       go_wp2
       go_roundw
       case rel =>
        refine ⟨j+1,_,by omega,by go_num,rfl,fun k hk=>?_⟩
        rcases Nat.lt_or_ge k j with h5 | h5
        ·exact HB.out k h5
        ·have e:k=j:=by omega
         subst e;have h1:=HY.out;have h2:=HZ.out;omega
       case measure=>simp [intOf];omega
     ·go_wp2
      go_ret
      have e:j=l.length:=by omega
      have HA:(l.all fun x=>decide (x<p))=true:=by
       refine List.all_eq_true.2 ?_;intro x hx;obtain ⟨k,hk,rfl⟩:=List.getElem_of_mem hx;have:=HB.out k (by omega)
       simpa [hk] using this
      exact ⟨by rw [E.out,HA];rfl,below_drewN (aa _) _⟩
   ·have aj:(w.alloc (.cells #[.int .u64 p, .int .i64 pub, .int .i64 l.length,T] 25)).cell? ad=some (.int .u64 ((l.getD 0 0:Nat):Int)):=by simpa [Addr.add] using hc
    have d3:(((l.getD 0 0:Nat):Int) != 1)=true:=by rw [bne_iff_ne];omega
    have E:=zH (show De p (l.length:Int) l=false by unfold De;rw [d3];simp)
    clear hc z3;revert aj d3
    generalize l.getD 0 0=y;intro aj d3;go_enter Tryz.func83,Tryz.ntmps83
    go_wp2_with fail
    go_ret
    exact ⟨by rw [E.out];rfl,aa _⟩
 ·have d1:((l.length:Int) != vars)=true:=by rw [bne_iff_ne];exact z1
  have E:=zH (show De p vars l=false by simp [De,z1])
  go_enter Tryz.func83,Tryz.ntmps83
  go_wp2_with fail
  go_ret
  exact ⟨by rw [E.out];rfl,aa _⟩
theorem IK (n k:Nat) (w:World) (hn:n <= 1000000000) (hk:0<k) (mn:k <= 1000000000) :
  Calls Tryz.prog 159 #[.int .i64 n, .int .i64 k] w fun e w'=>e= .returned (.int .i64 (((n+k-1) / k:Nat):Int)) /\ w'=w:=by
 obtain ⟨m,rfl⟩:∃ m,k=m+1:=⟨k-1,by omega⟩
 have e1:Hid (((n+(m+1)-1) / (m+1):Nat)=(n+m) / (m+1)):=rfl;go_enter Tryz.func159,Tryz.ntmps159
 go_wp2_with fail
 go_ret
 refine ⟨?_,rfl⟩;show Ending.returned (.int .i64 (((n:Int)+((m:Int)+1)-1) / ((m:Int)+1)))=_
 rw [show (n:Int)+((m:Int)+1)-1=((n+(m+1)-1:Nat):Int) from by omega]
 rfl
end Go.Proofs.YtjipleoamlmkfaaGreat
